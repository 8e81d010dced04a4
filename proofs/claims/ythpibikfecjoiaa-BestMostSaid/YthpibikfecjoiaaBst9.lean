import Derived.Test.YthpibikfecjoiaaBst8
namespace Go.Proofs.Ythpibikfecjoiaa.Own
open Go.RowKit Go.Proofs.YthpibikfecjoiaaW.PrintWords Go.Proofs.YthpibikfecjoiaaW.PrintLast Go.Proofs.YthpibikfecjoiaaW.PrintMore
set_option linter.unusedVariables false
set_option linter.unusedSimpArgs false
set_option maxHeartbeats 4000000 in
set_option maxRecDepth 100000 in
theorem choose_any {lA A1 aA : Option Addr} {lc c1 ac : Nat} {l : List S33} {can : List Bool} {apart : List S39} {seats : Int} (w : World)
    (hl : Kd.C k33 w lA l.length l) (hlc : l.length ≤ lc) (hc0 : Kd.C Kd.bool w A1 can.length can) (hc1 : can.length ≤ c1) (ha : Kd.C k39 w aA apart.length apart) (hac : apart.length ≤ ac) (h16 : l.length ≤ 16) (h6 : apart.length ≤ 1000000) :
    Calls Try.prog 8 #[.slice lA l.length lc, .slice A1 can.length c1, .int .i64 seats, .slice aA apart.length ac] w (ChoosePost w (visP (fun x j => fitsB (canP l.length can) seats (nbP apart) l x j) l (restRow l (canP l.length can) 0) l.length 0 [] 0 ⟨0, [], 0, false⟩)) := by
  have hm1 := fun w => run_make_row' (P := Try.prog) 23 4 (.bool false) 1 Try.underlying23 info4_ rfl .i64 .i64 l.length (by omega) (by omega) w
  have hm2 := fun w => run_make_row' (P := Try.prog) 36 3 (.int .i64 0) 8 Try.underlying36 info3_ rfl .i64 .i64 (l.length + 1) (by omega) (by omega) w
  rw [show (((l.length + 1 : Nat)) : Int) = (l.length : Int) + 1 from by omega] at hm2
  have HL := Lib.hid hl
  have HA := Lib.hid ha
  have HC := Lib.hid hc0
  clear hl ha hc0
  have hmn : (l.length : Int) ≤ 16 := by omega
  go_enter Try.func8, Try.ntmps8
  go_upto_region 2 with (fail)
  have H8 : Hid ((w.alloc (.cells #[.int .i64 0, .slice none 0 0, .int .i64 0] 28)).heap[w.heap.size]? = some (.cells #[.int .i64 0, .slice none 0 0, .int .i64 0] 28 (0, 0))) := Lib.hid (by show (w.heap.push _)[w.heap.size]? = _; simp)
  have HBW : Hid (Below w.heap.size w (w.alloc (.cells #[.int .i64 0, .slice none 0 0, .int .i64 0] 28))) := Lib.hid ((Below.refl _ _).alloc (Nat.le_refl _) _)
  replace HL := Lib.hid (Kd.C_below HL.out HBW.out)
  replace HA := Lib.hid (Kd.C_below HA.out HBW.out)
  replace HC := Lib.hid (Kd.C_below HC.out HBW.out)
  obtain ⟨b8, hb8⟩ : ∃ b8, b8 = w.heap.size := ⟨_, rfl⟩
  rw [← hb8] at H8 ⊢
  have HB8 := Lib.hid hb8
  clear hb8
  generalize w.alloc (.cells #[.int .i64 0, .slice none 0 0, .int .i64 0] 28) = w1 at H8 HBW HL HA HC ⊢
  go_cut [9] (fun v9 wc => Start w1 lA l.length lc seats aA apart.length ac v9 wc)
  case first =>
    go_wp2
    go_region
    · try go_wp2
      go_meet
      case rel =>
        refine ⟨w1.heap.size + 1 + 1, w1.heap.size, w1.heap.size + 1, rfl, ⟨(push3 w1.heap _ _ _).2.2, ?_, ?_, Kd.R_nil _ _ _ _ _, Kd.R_nil _ _ _ _ _, ?_, by omega⟩, by omega, by omega⟩
        · rw [← made_eq]; exact (push3 w1.heap _ _ _).1
        · rw [← made_eq]; exact (push3 w1.heap _ _ _).2.1
        · exact (((((Below.refl _ _).alloc (Nat.le_refl _) _).alloc (by simp) _).alloc (by simp; omega) _)).drew
    · try go_wp2
      go_meet
      case rel =>
        refine ⟨w1.heap.size + 1 + 1, w1.heap.size + 1, w1.heap.size, rfl, ⟨(push3 w1.heap _ _ _).2.2, ?_, ?_, Kd.R_nil _ _ _ _ _, Kd.R_nil _ _ _ _ _, ?_, by omega⟩, by omega, by omega⟩
        · rw [← made_eq]; exact (push3 w1.heap _ _ _).2.1
        · rw [← made_eq]; exact (push3 w1.heap _ _ _).1
        · exact (((((Below.refl _ _).alloc (Nat.le_refl _) _).alloc (by simp) _).alloc (by simp; omega) _)).drew
  case rest =>
    obtain ⟨p, C, R, rfl, hm, nC, nR⟩ := hcut
    clear hm1 hm2
    have HM := Lib.hid hm
    clear hm
    go_upto_region 3 with (fail)
    go_cut [33] (fun v33 wd => Hid (Mem w1 wd p C R (scells lA l.length lc C seats aA apart.length ac R (.slice none 0 0) 0 (.slice none 0 0) 0 false) (canP l.length can) (List.replicate (l.length + 1) 0) [] [] (.slice none 0 0) (.slice none 0 0)))
    case first =>
      have a1 : wc.cell? ⟨p, 1, none⟩ = some (.slice (some ⟨C, 0, none⟩) l.length l.length) := blk_cell HM.out.hp 1
      by_cases h0 : Nat.min can.length l.length = 0
      · go_wp2_with (first | (with_reducible refine wpList_copy_nothing rfl (.tmp 31) (.tmp 32) 23 23 rfl 4 Try.underlying23 (by kernel_rfl) _ _ _ _ _ _ rfl rfl h0 ?_))
        go_wp2
        go_meet
        case rel =>
          refine Lib.hid ?_
          rw [show canP l.length can = List.replicate l.length false from canP_none h0]
          exact HM.out
      · have hpos : 0 < can.length := by
          rcases Nat.eq_zero_or_pos can.length with e | e
          · exact absurd (by rw [e]; exact Nat.zero_min _) h0
          · exact e
        obtain ⟨ad, rfl, hrd⟩ := (Kd.reads_of_C (d := false) (Kd.C_below HC.out HM.out.hb)).2.2 hpos
        have HRD := Lib.hid hrd
        clear hrd
        go_wp2_with (first | (with_reducible refine wpList_copy_own rfl (.tmp 31) (.tmp 32) 23 23 rfl 4 Try.underlying23 (by kernel_rfl) C 0 l.length l.length ad can.length c1 rfl rfl _ 4 HM.out.hC ((can.take l.length).map Value.bool) ?_ ?_ ?_ ?_ ?_))
        · simp only [List.length_map, List.length_take]; exact Nat.min_comm _ _
        · intro j v hj
          obtain ⟨hj1, hj2⟩ := List.getElem?_eq_some_iff.1 hj
          simp only [List.length_map, List.length_take] at hj1
          have hjc : j < can.length := by omega
          rw [HRD.out j hjc, ← hj2, List.getElem_map, List.getElem_take, List.getD_eq_getElem?_getD, List.getElem?_eq_getElem hjc]
          rfl
        · simp only [List.length_map, List.length_take, List.size_toArray, List.length_replicate]; omega
        · intro v hv
          obtain ⟨b, _, rfl⟩ := List.mem_map.1 hv
          rfl
        rw [canP_row l.length can]
        have HM3 := Lib.hid (HM.out.setC nC (canP l.length can) _ rfl)
        generalize wc.setRow C ((canP l.length can).map Value.bool).toArray = wd at HM3 ⊢
        go_wp2
        go_meet
        case rel => exact HM3
    case rest =>
      have HM1 := hcut
      clear HM hcut
      go_wp2
      go_loopw [10] (fun v10 wd => RestRel w1 lA l.length lc seats aA apart.length ac p C R l can v10 wd) (fun v10 _ => (intOf v10 + 1).toNat)
      case atStart =>
        rcases Nat.eq_zero_or_pos l.length with e | e
        · exact .inr ⟨by rw [e]; rfl, Lib.hid (by rw [restRow_n (by omega)]; exact HM1.out)⟩
        · exact .inl ⟨l.length - 1, by omega, int_pred e, Lib.hid (by rw [restRow_n (by omega)]; exact HM1.out)⟩
      case round =>
        rcases hrel with ⟨t, ht, rfl, HM2⟩ | ⟨rfl, HM2⟩
        · go_upto_block 1 with (fail)
          refine blk1_wp HL HM2 nR ht h16 (Lib.hid fun c a N v w h => by cases N <;> exact h) (Lib.hid ?_)
          clear HM2
          intro d41 d42 d43 d44 d45 d46 d47 d48 d49 d50 d51 d52 d53 d54 d55 d56 d57 d58 d59 d60 d61 d62 d63 d64 d65 d66 d67 d68 d69 d70 d71 d72 d73 d74 d75 w5 HM5
          go_wp2
          go_roundw
          case measure => first | (simp [intOf]; done) | (simp [intOf]; omega)
          case rel =>
            rcases Nat.eq_zero_or_pos t with e | e
            · subst e
              exact .inr ⟨rfl, HM5⟩
            · exact .inl ⟨t - 1, by omega, int_pred e, Lib.hid (by rw [show t - 1 + 1 = t from by omega]; exact HM5.out)⟩
        · have HV := Lib.hid (visit_any HL.out HA.out hac (not_f apart h6) (canP_len l.length can) (restRow_len l _ 0) h16 l.length 0 wr 0 [] ⟨0, [], 0, false⟩ _ _ HM2.out (by omega) (Nat.le_refl _))
          have HMX := HM2
          clear HM2
          go_wp2_with fail
          refine HV.out.mono ?_
          rintro e w3 ⟨rfl, nv, uv, hm3⟩
          obtain ⟨st, hst⟩ : ∃ z, z = visP (fun x j => fitsB (canP l.length can) seats (nbP apart) l x j) l (restRow l (canP l.length can) 0) l.length 0 [] 0 ⟨0, [], 0, false⟩ := ⟨_, rfl⟩
          rw [← hst] at hm3
          have HST := Lib.hid hst
          obtain ⟨Au, cu, rfl, _, _⟩ := Kd.R_reads hm3.hu
          have HM3 := Lib.hid hm3
          clear hm3 hst
          have b6 : w3.cell? ⟨p, 6, none⟩ = some (.int .i64 st.bw) := blk_cell HM3.out.hp 6
          have b7 : w3.cell? ⟨p, 7, none⟩ = some (.slice Au st.us.length cu) := blk_cell HM3.out.hp 7
          have b8' : w3.cell? ⟨p, 8, none⟩ = some (.int .i64 st.vis) := blk_cell HM3.out.hp 8
          have H83 := Lib.hid ((HM3.out.hb.block b8 ((Array.getElem?_eq_some_iff.1 H8.out).1)).trans H8.out)
          have z0 : w3.cell? ⟨b8, 0, none⟩ = some (.int .i64 0) := blk_cell H83.out 0
          have z1 : w3.cell? ⟨b8, 1, none⟩ = some (.slice none 0 0) := blk_cell H83.out 1
          have z2 : w3.cell? ⟨b8, 2, none⟩ = some (.int .i64 0) := blk_cell H83.out 2
          have y0 := blk_frozen H83.out 0
          have y1 := blk_frozen H83.out 1
          have y2 := blk_frozen H83.out 2
          go_wp2_with fail
          rw [← HST.out]
          have H84 := Lib.hid (Go.Joins.block_setCell (Go.Joins.block_setCell (Go.Joins.block_setCell H83.out (i := 0) (.int .i64 st.bw)) (i := 1) (.slice Au st.us.length cu)) (i := 2) (.int .i64 st.vis))
          have HR4 : Hid (Kd.R (Kd.int .u32) 31 (((w3.setCell ⟨b8, 0, none⟩ (.int .i64 st.bw)).setCell ⟨b8, 1, none⟩ (.slice Au st.us.length cu)).setCell ⟨b8, 2, none⟩ (.int .i64 st.vis)) w.heap.size (fun _ => True) (.slice Au st.us.length cu) st.us) := Lib.hid
            (Kd.R_lower (Kd.R_mono (Kd.R_set (Kd.R_set (Kd.R_set HM3.out.hu H83.out ne31 0 _) (Go.Joins.block_setCell H83.out (i := 0) (.int .i64 st.bw)) ne31 1 _) (Go.Joins.block_setCell (Go.Joins.block_setCell H83.out (i := 0) (.int .i64 st.bw)) (i := 1) (.slice Au st.us.length cu)) ne31 2 _) (fun _ _ => trivial)) HBW.out.size)
          have hge : w.heap.size ≤ b8 := Nat.le_of_eq HB8.out.symm
          have HB4 := Lib.hid ((((HBW.out.trans (HM3.out.hb.mono HBW.out.size)).setCell (p := ⟨b8, 0, none⟩) hge (.int .i64 st.bw)).setCell (p := ⟨b8, 1, none⟩) hge (.slice Au st.us.length cu)).setCell (p := ⟨b8, 2, none⟩) hge (.int .i64 st.vis))
          clear b6 b7 b8' z0 z1 z2 y0 y1 y2 hge HM3 H83 HV HMX
          generalize ((w3.setCell ⟨b8, 0, none⟩ (.int .i64 st.bw)).setCell ⟨b8, 1, none⟩ (.slice Au st.us.length cu)).setCell ⟨b8, 2, none⟩ (.int .i64 st.vis) = w4 at H84 HR4 HB4 ⊢
          have q0 : w4.cell? ⟨b8, 0, none⟩ = some (.int .i64 st.bw) := blk_cell H84.out 0
          have q1 : w4.cell? ⟨b8, 1, none⟩ = some (.slice Au st.us.length cu) := blk_cell H84.out 1
          have q2 : w4.cell? ⟨b8, 2, none⟩ = some (.int .i64 st.vis) := blk_cell H84.out 2
          exact bodyPost_ret (v := .agg #[.int .i64 st.bw, .slice Au st.us.length cu, .int .i64 st.vis]) (by simp [results, Try.results8, go_sem, q0, q1, q2]) rfl ⟨_, rfl, HR4.out, HB4.out⟩
end Go.Proofs.Ythpibikfecjoiaa.Own
