-- own text: texts of this session merged by a program of it (merge.py), declarations that nothing reaches left out (prune.py)
import Derived.Test.YtinjbpbpgogdhaaHa20
section
namespace Go.Proofs.Ytinjbpbpgogdhaa.Own
open Go.RowKit Go.Shelf Go.Proofs.YtinjbpbpgogdhaaW.PrintWords Go.Proofs.YtinjbpbpgogdhaaW.PrintLast Go.Proofs.YtinjbpbpgogdhaaW.PrintMore
set_option linter.unusedVariables false
set_option linter.unusedSimpArgs false
theorem wdep (p : Prop) (h : Fence.wide.depth.isSome = true) : p := by cases h
theorem wk0 {k : Nat} {a1 : Int} (h : (k : Int) * a1 ≤ 110936) (h1 : 1 ≤ a1) : k ≤ 110936 := by
  have : (k : Int) * 1 ≤ (k : Int) * a1 := Int.mul_le_mul_of_nonneg_left h1 (by omega)
  omega
set_option maxHeartbeats 8000000 in
set_option maxRecDepth 100000 in
/-- times: hands out T, or a part of it. -/
theorem times_in {w0 : World} {g : Nat} {a0 a1 a2 a3 a8 : Int} {A4 A5 A6 A7 : Option Addr} {c4 c5 c6 c7 : Nat} {l4 l5 l7 : List Int} {l6 : List S58} {day sy sm sd mi : Int} (m l k0 : Nat) (T : List Int) (J Jx : List Int → World → Prop) (W : World) (hW : Wk0 w0 W g a0 a1 a2 a3 a8 A4 A5 A6 A7 c4 c5 c6 c7 l4 l5 l7 l6 day sy sm sd mi)
    (ha0 : 1 ≤ a0 ∧ a0 ≤ 4) (ha1 : 1 ≤ a1 ∧ a1 ≤ 999) (ha8 : 0 ≤ a8 ∧ a8 ≤ 6) (hd0 : 0 ≤ day) (hd1 : day ≤ 109938) (hy0 : 1900 ≤ sy) (hy1 : sy ≤ 2200) (hm0 : 1 ≤ sm) (hm1 : sm ≤ 12) (hmi : 0 ≤ mi ∧ mi ≤ 1439) (hk0 : (k0 : Int) * a1 ≤ 110936)
    (hT : T = timesL a0 a1 a2 a3 a8 l4 l7 (dayB a0 l4 l5 l6 day sm sd) day sy sm mi k0) (hJ : AbidesFrom W.heap.size J)
    (hY : ∀ pre x W1, J pre W1 → pre.length < T.length → YieldAt Fence.wide (m - 1) Try.prog l #[.int .i64 x] W1 fun e W' => (e = .returned (.bool true) ∧ J (pre ++ [x]) W' ∧ Kp w0.heap.size W1 W') ∨ (e = .returned (.bool false) ∧ Jx (pre ++ [x]) W'))
    (h0 : J [] W) : CallsIn Fence.wide m Try.prog 29 #[.pointer (some ⟨g, 0, none⟩), .int .i64 (k0 : Int), .func (.yield l) #[] #[]] W fun e W' => (∃ v, e = .returned v) ∧ (J T W' ∨ ∃ pre, pre <+: T ∧ Jx pre W') := by
  have HTL : Hid (T.length ≤ 44400000) := Lib.hid (by rw [hT]; exact timesL_len _ _ _ _ _ _ _ _ _ _ _ _ _)
  obtain ⟨P, hP⟩ : ∃ P, P = dayB a0 l4 l5 l6 day sm sd := ⟨_, rfl⟩
  obtain ⟨DL, hDL⟩ : ∃ f, f = DLp a0 a1 a8 l4 l7 P day sy sm := ⟨_, rfl⟩
  obtain ⟨more, hmore⟩ : ∃ f : Nat → Nat → List Int, f = fun k g => goPer DL a2 a3 day mi (111000 - k) k g := ⟨_, rfl⟩
  obtain ⟨WT, hWT⟩ : ∃ f : World → Prop, f = fun W => Wk0 w0 W g a0 a1 a2 a3 a8 A4 A5 A6 A7 c4 c5 c6 c7 l4 l5 l7 l6 day sy sm sd mi := ⟨_, rfl⟩
  have HWT := Lib.hid hWT
  have HW : Hid (WT W) := Lib.hid (by rw [hWT]; exact hW)
  have HT0 : Hid (T = [] ++ more k0 ([] : List Int).length) := Lib.hid (by rw [hT, hmore, hDL, hP]; rfl)
  have HY := Lib.hid hY
  have HJA := Lib.hid hJ
  have H0 := Lib.hid h0
  have HP := Lib.hid hP
  have HDL := Lib.hid hDL
  have HMO := Lib.hid hmore
  have HK0 := Lib.hid hk0
  clear hT hP hDL hmore hWT hW hY hJ h0 hk0
  refine callsIn_of_wp Try.func29 rfl trivial ?_ rfl
  simp only [Try.ntmps29, List.size_toArray, List.length_cons, List.length_nil, Nat.reduceAdd, Nat.reduceSub, Array.replicate_succ, Array.replicate_zero, List.push_toArray, List.append_toArray, List.nil_append, List.cons_append]
  gi_wp2
  gi_loopw [1, 6] (fun k' g' wr => ∃ (k : Nat) (pre2 : List Int), k ≤ 110936 ∧ (k : Int) * a1 ≤ 110936 ∧ k' = .int .i64 (k : Int) ∧ g' = .int .i64 (pre2.length : Int) ∧ Hid (T = pre2 ++ more k pre2.length) ∧ Hid (J pre2 wr) ∧ Hid (WT wr)) (fun k' _ _ => 111000 - (intOf k').toNat)
  case atStart => exact ⟨k0, [], wk0 HK0.out ha1.1, HK0.out, rfl, rfl, HT0, H0, HW⟩
  case round =>
  obtain ⟨k, pre2, hk, hka, rfl, rfl, HT, HJr, HWr⟩ := hrel
  have HWW : Hid (Wk0 w0 wr g a0 a1 a2 a3 a8 A4 A5 A6 A7 c4 c5 c6 c7 l4 l5 l7 l6 day sy sm sd mi) := Lib.hid (by have h := HWr.out; rw [HWT.out] at h; exact h)
  obtain ⟨PL, hPL⟩ : ∃ f, f = periodL a0 a8 l4 P day sy sm ((k : Int) * a1) := ⟨_, rfl⟩
  have HPEC : Hid (Calls Try.prog 39 #[.pointer (some ⟨g, 0, none⟩), .int .i64 (k : Int)] wr (PeriodPost w0 wr PL)) := Lib.hid (by
    rw [hPL, HP.out]
    exact period_any (k : Int) ((k : Int) * a1) wr HWW.out ha0 ha8 rfl (Int.mul_nonneg (by omega) (by omega)) (by omega) hd0 hd1 hy0 hy1 hm0 hm1)
  have HPLN : Hid (PL.1.length ≤ 400) := Lib.hid (by rw [hPL]; exact periodL_len _ _ _ _ _ _ _ _)
  obtain ⟨L, hL⟩ : ∃ f, f = placesL l7 PL.1 := ⟨_, rfl⟩
  have HDLK : Hid (DL k = (L, PL.2)) := Lib.hid (by rw [HDL.out, hL, hPL]; rfl)
  have HCAL : Hid (∀ j, j < L.length → 0 ≤ rd L (j : Int) ∧ rd L (j : Int) < 109938) := Lib.hid (fun j hj => by
    have h := rd_mem hj
    rw [hL, hPL, HP.out] at h
    have h2 := DLp_bd (a1 := a1) (k := k) h
    rw [hL, hPL, HP.out]
    exact h2)
  have HLN : Hid (L.length ≤ 400) := Lib.hid (by rw [hL]; exact Nat.le_trans (placesL_len _ _) HPLN.out)
  have HLP : Hid (∀ (v : Value) (w2 : World), Wk0 w0 w2 g a0 a1 a2 a3 a8 A4 A5 A6 A7 c4 c5 c6 c7 l4 l5 l7 l6 day sy sm sd mi → Kd.R (Kd.int .i64) 3 w2 w0.heap.size (fun _ => True) v PL.1 → Calls Try.prog 40 #[.pointer (some ⟨g, 0, none⟩), v] w2 (PlacesPost w0 w2 L)) := Lib.hid (fun v w2 h1 h2 => by
    rw [hL]
    exact places_any v PL.1 w2 h1 h2 (Nat.le_trans HPLN.out (by decide)))
  have HMORE : Hid (PL.2 = true → (k : Int) * a1 < 109938) := Lib.hid (fun h => by rw [hPL] at h; exact period_more hd0 hd1 hy0 hm0 h)
  obtain ⟨ds, mr⟩ := PL
  dsimp only at HPEC HDLK HMORE HLP HPLN
  clear hPL hL
  cases mr with
  | false =>
    have HTE : Hid (T = pre2) := Lib.hid (by
      have h := HT.out
      rw [HMO.out] at h
      dsimp only at h
      rw [show 111000 - k = (110999 - k) + 1 from by omega, goPer_no (by rw [HDLK.out]), List.append_nil] at h
      exact h)
    gi_wp2_with (refine ⟨trivial, wdep _, ?_⟩; (with_reducible refine CallsIn.mono (callsIn_wide.2 HPEC.out) ?_); rintro e w2 ⟨v, rfl, hR2, hk2, hb2⟩; have HR2 := Lib.hid hR2; have HK2 := Lib.hid hk2; have HB2 := Lib.hid hb2; clear hR2 hk2 hb2)
    refine bodyPost_ret (results_none rfl _ _ _) rfl ?_
    refine ⟨⟨_, rfl⟩, .inl ?_⟩
    rw [HTE.out]
    exact abides_kept HJA.out HK2.out HWW.out.hb HB2.out HJr.out
  | true =>
    have HK1 : Hid (((k + 1 : Nat) : Int) * a1 ≤ 110936) := Lib.hid (by
      have h := HMORE.out rfl
      rw [show ((k + 1 : Nat) : Int) = (k : Int) + 1 from by omega, Int.add_mul]
      omega)
    have hk1 : k + 1 ≤ 110936 := wk0 HK1.out ha1.1
    obtain ⟨rest, hrest⟩ : ∃ f : List Int → Nat → List Int, f = fun ns g => behind (goDays a2 a3 day mi ns g) (more (k + 1)) g := ⟨_, rfl⟩
    have HRE := Lib.hid hrest
    clear hrest
    have HTJ : Hid (T = pre2 ++ rest (L.drop 0) pre2.length) := Lib.hid (by
      have h := HT.out
      rw [HRE.out, List.drop_zero]
      rw [HMO.out] at h ⊢
      dsimp only at h ⊢
      rw [show 111000 - k = (111000 - (k + 1)) + 1 from by omega, goPer_yes (by rw [HDLK.out])] at h
      rw [HDLK.out] at h
      exact h)
    clear HT hka HMORE HDLK
    gi_wp2_with (refine ⟨trivial, wdep _, ?_⟩; first | ((with_reducible refine CallsIn.mono (callsIn_wide.2 HPEC.out) ?_); rintro e w2 ⟨v, rfl, hR2, hk2, hb2⟩; have HR2 := Lib.hid hR2; have HK2 := Lib.hid hk2; have HB2 := Lib.hid hb2; clear hR2 hk2 hb2; have HW2 : Hid (Wk0 w0 w2 g a0 a1 a2 a3 a8 A4 A5 A6 A7 c4 c5 c6 c7 l4 l5 l7 l6 day sy sm sd mi) := Lib.hid ⟨kept_below HK2.out HWW.out.hg, HWW.out.rc, HB2.out, HWW.out.ng⟩; have HPL := Lib.hid (HLP.out _ _ HW2.out HR2.out)) | ((with_reducible refine CallsIn.mono (callsIn_wide.2 HPL.out) ?_); rintro e w4 ⟨v4, rfl, hR4, hk4, hb4⟩; have HR4 := Lib.hid hR4; have HK4 := Lib.hid hk4; have HB4 := Lib.hid hb4; clear hR4 hk4 hb4; obtain ⟨vA, vc, rfl, hx1, hx2⟩ := Kd.R_reads HR4.out; clear hx1 hx2))
    have HJ4 : Hid (J pre2 w4) := Lib.hid (abides_kept HJA.out HK4.out HB2.out HB4.out (abides_kept HJA.out HK2.out HWW.out.hb HB2.out HJr.out))
    have HW4 : Hid (WT w4) := Lib.hid (by rw [HWT.out]; exact ⟨kept_below HK4.out HW2.out.hg, HWW.out.rc, HB4.out, HWW.out.ng⟩)
    gi_loopw [26, 6] (fun i' g' wr => ∃ (j : Nat) (pre2 : List Int), j ≤ L.length ∧ i' = .int .i64 (j : Int) ∧ g' = .int .i64 (pre2.length : Int) ∧ Hid (T = pre2 ++ rest (L.drop j) pre2.length) ∧ Hid (J pre2 wr) ∧ Hid (WT wr) ∧ Hid (Kd.R (Kd.int .i64) 3 wr w0.heap.size (fun _ => True) (.slice vA L.length vc) L)) (fun i' _ _ => L.length - (intOf i').toNat)
    case atStart => exact ⟨0, pre2, Nat.zero_le _, rfl, rfl, HTJ, HJ4, HW4, HR4⟩
    case round =>
    clear HPEC HPL HLP
    obtain ⟨j, pre2, hj, rfl, rfl, HTj, HJj, HWj, HRj⟩ := hrel
    by_cases hlt : j < L.length
    · obtain ⟨x, hx⟩ : ∃ x, x = rd L (j : Int) := ⟨_, rfl⟩
      have hj1 : j + 1 ≤ L.length := hlt
      have hcl := HCAL.out j hlt
      rw [← hx] at hcl
      have hdrop : L.drop j = x :: L.drop (j + 1) := by rw [rd_drop hlt, hx]
      obtain ⟨ad, rfl, hc1⟩ := Kd.at_int (Kd.R_reads' HRj.out).2.2 (j : Int) (by omega) (by omega)
      rw [Int.toNat_natCast, ← hx] at hc1
      clear hx
      have HWW := HWj.out
      rw [HWT.out] at HWW
      have q2 := cell_eq (blk_cell HWW.hg 2) rfl
      have q3 := cell_eq (blk_cell HWW.hg 3) rfl
      have q9 := cell_eq (blk_cell HWW.hg 9) rfl
      have q13 := cell_eq (blk_cell HWW.hg 13) rfl
      clear HWW
      have hpl : pre2.length ≤ 44400000 := by
        have h1 := HTL.out
        rw [HTj.out, List.length_append] at h1
        omega
      obtain ⟨gv, hgv⟩ : ∃ a : Int, a = (pre2.length : Int) := ⟨_, rfl⟩
      have HGV := Lib.hid hgv
      have hg0 : 0 ≤ gv ∧ gv ≤ 44400000 := by omega
      rw [← hgv]
      clear hpl
      have w1 : wrap64 (x * 1440) = x * 1440 := IntWalk.wrap64_in _ (by omega)
      have w2 : wrap64 (x * 1440 + mi) = x * 1440 + mi := by clear w1; exact IntWalk.wrap64_in _ (by omega)
      have w3 : wrap64 (gv + 1) = gv + 1 := by clear w1 w2; exact IntWalk.wrap64_in _ (by omega)
      have w4 : wrap64 ((j : Int) + 1) = (j : Int) + 1 := by clear w1 w2 w3; have hln := HLN.out; exact IntWalk.wrap64_in _ (by omega)
      clear hgv
      have HDR := Lib.hid hdrop
      clear hdrop
      by_cases hsk : x < day
      · have HT5 : Hid (T = pre2 ++ rest (L.drop (j + 1)) pre2.length) := Lib.hid (by
          have h := HTj.out
          rw [HRE.out] at h ⊢
          rw [HDR.out] at h
          rw [h]
          show pre2 ++ behind (goDays a2 a3 day mi (x :: L.drop (j + 1)) pre2.length) (more (k + 1)) pre2.length = _
          rw [behind_skip _ hsk])
        gi_wp2
        refine ⟨⟨j + 1, pre2, hj1, by rw [w4]; rfl, by rw [HGV.out], HT5, HJj, HWj, HRj⟩, ?_⟩
        rw [w4]
        clear w1 w2 w3 w4
        simp only [intOf]
        omega
      · by_cases e3 : 0 ≤ a3
        · by_cases e3b : a3 < x * 1440 + mi
          · have HT5 : Hid (T = pre2) := Lib.hid (by
              have h := HTj.out
              rw [HRE.out] at h
              rw [HDR.out] at h
              have hend : endT a2 a3 (x * 1440 + mi) pre2.length = true := by
                unfold endT
                rw [← HGV.out]
                simp [*]
              rw [h]
              show pre2 ++ behind (goDays a2 a3 day mi (x :: L.drop (j + 1)) pre2.length) (more (k + 1)) pre2.length = _
              rw [behind_end _ hsk hend, List.append_nil])
            gi_wp2
            refine bodyPost_ret (results_none rfl _ _ _) rfl ?_
            exact ⟨⟨_, rfl⟩, .inl (by rw [HT5.out]; exact HJj.out)⟩
          · by_cases e2 : 0 < a2
            · by_cases eg : gv = a2
              · have egb : (gv == a2) = true := by rw [eg]; exact beq_self_eq_true _
                have HT5 : Hid (T = pre2) := Lib.hid (by
                  have h := HTj.out
                  rw [HRE.out] at h
                  rw [HDR.out] at h
                  have hend : endT a2 a3 (x * 1440 + mi) pre2.length = true := by
                    unfold endT
                    rw [← HGV.out]
                    simp [*]
                  rw [h]
                  show pre2 ++ behind (goDays a2 a3 day mi (x :: L.drop (j + 1)) pre2.length) (more (k + 1)) pre2.length = _
                  rw [behind_end _ hsk hend, List.append_nil])
                gi_wp2
                refine bodyPost_ret (results_none rfl _ _ _) rfl ?_
                exact ⟨⟨_, rfl⟩, .inl (by rw [HT5.out]; exact HJj.out)⟩
              · have egb : (gv == a2) = false := by rw [Bool.eq_false_iff]; intro h; exact eg (eq_of_beq h)
                have HT5 : Hid (T = (pre2 ++ [x * 1440 + mi]) ++ rest (L.drop (j + 1)) (pre2.length + 1)) := Lib.hid (by
                  have h := HTj.out
                  rw [HRE.out] at h ⊢
                  rw [HDR.out] at h
                  have hend : endT a2 a3 (x * 1440 + mi) pre2.length = false := by
                    unfold endT
                    rw [← HGV.out]
                    simp [*]
                  rw [h]
                  show pre2 ++ behind (goDays a2 a3 day mi (x :: L.drop (j + 1)) pre2.length) (more (k + 1)) pre2.length = _
                  rw [behind_more _ hsk hend, List.append_assoc]
                  rfl)
                obtain ⟨fn, tmps, assign, body, hy, hR⟩ := HY.out pre2 (x * 1440 + mi) _ HJj.out (by
                  have h := HT5.out
                  rw [h, List.length_append, List.length_append, List.length_singleton]
                  clear w1 w2 w3 w4
                  omega)
                have HRY := Lib.hid hR
                clear hR
                gi_wp2
                refine ⟨wdep _, RoundIn.mono HRY.out ?_⟩
                rintro e w5 (⟨rfl, hJ5, hk5⟩ | ⟨rfl, hJx5⟩)
                · have HJ5 := Lib.hid hJ5
                  have HK5 := Lib.hid hk5
                  clear hJ5 hk5
                  gi_wp2
                  refine ⟨⟨j + 1, pre2 ++ [x * 1440 + mi], hj1, by rw [w4]; rfl, by rw [List.length_append, List.length_singleton, HGV.out]; rfl, Lib.hid (by rw [List.length_append, List.length_singleton]; exact HT5.out), HJ5, Lib.hid (by have h := HWj.out; rw [HWT.out] at h ⊢; exact HK5.out.wk h), Lib.hid (HK5.out.row HRj.out)⟩, ?_⟩
                  rw [w4]
                  clear w1 w2 w3 w4
                  simp only [intOf]
                  omega
                · have HJ5 := Lib.hid hJx5
                  clear hJx5
                  gi_wp2
                  refine bodyPost_ret (results_none rfl _ _ _) rfl ?_
                  exact ⟨⟨_, rfl⟩, .inr ⟨pre2 ++ [x * 1440 + mi], ⟨_, HT5.out.symm⟩, HJ5.out⟩⟩
            · have HT5 : Hid (T = (pre2 ++ [x * 1440 + mi]) ++ rest (L.drop (j + 1)) (pre2.length + 1)) := Lib.hid (by
                have h := HTj.out
                rw [HRE.out] at h ⊢
                rw [HDR.out] at h
                have hend : endT a2 a3 (x * 1440 + mi) pre2.length = false := by
                  unfold endT
                  rw [← HGV.out]
                  simp [*]
                rw [h]
                show pre2 ++ behind (goDays a2 a3 day mi (x :: L.drop (j + 1)) pre2.length) (more (k + 1)) pre2.length = _
                rw [behind_more _ hsk hend, List.append_assoc]
                rfl)
              obtain ⟨fn, tmps, assign, body, hy, hR⟩ := HY.out pre2 (x * 1440 + mi) _ HJj.out (by
                have h := HT5.out
                rw [h, List.length_append, List.length_append, List.length_singleton]
                clear w1 w2 w3 w4
                omega)
              have HRY := Lib.hid hR
              clear hR
              gi_wp2
              refine ⟨wdep _, RoundIn.mono HRY.out ?_⟩
              rintro e w5 (⟨rfl, hJ5, hk5⟩ | ⟨rfl, hJx5⟩)
              · have HJ5 := Lib.hid hJ5
                have HK5 := Lib.hid hk5
                clear hJ5 hk5
                gi_wp2
                refine ⟨⟨j + 1, pre2 ++ [x * 1440 + mi], hj1, by rw [w4]; rfl, by rw [List.length_append, List.length_singleton, HGV.out]; rfl, Lib.hid (by rw [List.length_append, List.length_singleton]; exact HT5.out), HJ5, Lib.hid (by have h := HWj.out; rw [HWT.out] at h ⊢; exact HK5.out.wk h), Lib.hid (HK5.out.row HRj.out)⟩, ?_⟩
                rw [w4]
                clear w1 w2 w3 w4
                simp only [intOf]
                omega
              · have HJ5 := Lib.hid hJx5
                clear hJx5
                gi_wp2
                refine bodyPost_ret (results_none rfl _ _ _) rfl ?_
                exact ⟨⟨_, rfl⟩, .inr ⟨pre2 ++ [x * 1440 + mi], ⟨_, HT5.out.symm⟩, HJ5.out⟩⟩
        · by_cases e2 : 0 < a2
          · by_cases eg : gv = a2
            · have egb : (gv == a2) = true := by rw [eg]; exact beq_self_eq_true _
              have HT5 : Hid (T = pre2) := Lib.hid (by
                have h := HTj.out
                rw [HRE.out] at h
                rw [HDR.out] at h
                have hend : endT a2 a3 (x * 1440 + mi) pre2.length = true := by
                  unfold endT
                  rw [← HGV.out]
                  simp [*]
                rw [h]
                show pre2 ++ behind (goDays a2 a3 day mi (x :: L.drop (j + 1)) pre2.length) (more (k + 1)) pre2.length = _
                rw [behind_end _ hsk hend, List.append_nil])
              gi_wp2
              refine bodyPost_ret (results_none rfl _ _ _) rfl ?_
              exact ⟨⟨_, rfl⟩, .inl (by rw [HT5.out]; exact HJj.out)⟩
            · have egb : (gv == a2) = false := by rw [Bool.eq_false_iff]; intro h; exact eg (eq_of_beq h)
              have HT5 : Hid (T = (pre2 ++ [x * 1440 + mi]) ++ rest (L.drop (j + 1)) (pre2.length + 1)) := Lib.hid (by
                have h := HTj.out
                rw [HRE.out] at h ⊢
                rw [HDR.out] at h
                have hend : endT a2 a3 (x * 1440 + mi) pre2.length = false := by
                  unfold endT
                  rw [← HGV.out]
                  simp [*]
                rw [h]
                show pre2 ++ behind (goDays a2 a3 day mi (x :: L.drop (j + 1)) pre2.length) (more (k + 1)) pre2.length = _
                rw [behind_more _ hsk hend, List.append_assoc]
                rfl)
              obtain ⟨fn, tmps, assign, body, hy, hR⟩ := HY.out pre2 (x * 1440 + mi) _ HJj.out (by
                have h := HT5.out
                rw [h, List.length_append, List.length_append, List.length_singleton]
                clear w1 w2 w3 w4
                omega)
              have HRY := Lib.hid hR
              clear hR
              gi_wp2
              refine ⟨wdep _, RoundIn.mono HRY.out ?_⟩
              rintro e w5 (⟨rfl, hJ5, hk5⟩ | ⟨rfl, hJx5⟩)
              · have HJ5 := Lib.hid hJ5
                have HK5 := Lib.hid hk5
                clear hJ5 hk5
                gi_wp2
                refine ⟨⟨j + 1, pre2 ++ [x * 1440 + mi], hj1, by rw [w4]; rfl, by rw [List.length_append, List.length_singleton, HGV.out]; rfl, Lib.hid (by rw [List.length_append, List.length_singleton]; exact HT5.out), HJ5, Lib.hid (by have h := HWj.out; rw [HWT.out] at h ⊢; exact HK5.out.wk h), Lib.hid (HK5.out.row HRj.out)⟩, ?_⟩
                rw [w4]
                clear w1 w2 w3 w4
                simp only [intOf]
                omega
              · have HJ5 := Lib.hid hJx5
                clear hJx5
                gi_wp2
                refine bodyPost_ret (results_none rfl _ _ _) rfl ?_
                exact ⟨⟨_, rfl⟩, .inr ⟨pre2 ++ [x * 1440 + mi], ⟨_, HT5.out.symm⟩, HJ5.out⟩⟩
          · have HT5 : Hid (T = (pre2 ++ [x * 1440 + mi]) ++ rest (L.drop (j + 1)) (pre2.length + 1)) := Lib.hid (by
              have h := HTj.out
              rw [HRE.out] at h ⊢
              rw [HDR.out] at h
              have hend : endT a2 a3 (x * 1440 + mi) pre2.length = false := by
                unfold endT
                rw [← HGV.out]
                simp [*]
              rw [h]
              show pre2 ++ behind (goDays a2 a3 day mi (x :: L.drop (j + 1)) pre2.length) (more (k + 1)) pre2.length = _
              rw [behind_more _ hsk hend, List.append_assoc]
              rfl)
            obtain ⟨fn, tmps, assign, body, hy, hR⟩ := HY.out pre2 (x * 1440 + mi) _ HJj.out (by
              have h := HT5.out
              rw [h, List.length_append, List.length_append, List.length_singleton]
              clear w1 w2 w3 w4
              omega)
            have HRY := Lib.hid hR
            clear hR
            gi_wp2
            refine ⟨wdep _, RoundIn.mono HRY.out ?_⟩
            rintro e w5 (⟨rfl, hJ5, hk5⟩ | ⟨rfl, hJx5⟩)
            · have HJ5 := Lib.hid hJ5
              have HK5 := Lib.hid hk5
              clear hJ5 hk5
              gi_wp2
              refine ⟨⟨j + 1, pre2 ++ [x * 1440 + mi], hj1, by rw [w4]; rfl, by rw [List.length_append, List.length_singleton, HGV.out]; rfl, Lib.hid (by rw [List.length_append, List.length_singleton]; exact HT5.out), HJ5, Lib.hid (by have h := HWj.out; rw [HWT.out] at h ⊢; exact HK5.out.wk h), Lib.hid (HK5.out.row HRj.out)⟩, ?_⟩
              rw [w4]
              clear w1 w2 w3 w4
              simp only [intOf]
              omega
            · have HJ5 := Lib.hid hJx5
              clear hJx5
              gi_wp2
              refine bodyPost_ret (results_none rfl _ _ _) rfl ?_
              exact ⟨⟨_, rfl⟩, .inr ⟨pre2 ++ [x * 1440 + mi], ⟨_, HT5.out.symm⟩, HJ5.out⟩⟩
    · obtain rfl : j = L.length := by omega
      have HT5 : Hid (T = pre2 ++ more (k + 1) pre2.length) := Lib.hid (by
        have h := HTj.out
        rw [HRE.out, List.drop_length] at h
        rw [h]
        show pre2 ++ behind ([], false) (more (k + 1)) pre2.length = _
        rw [behind_nil])
      have w5 : wrap64 ((k : Int) + 1) = ((k + 1 : Nat) : Int) := by rw [show ((k + 1 : Nat) : Int) = (k : Int) + 1 from by omega]; exact IntWalk.wrap64_in _ (by omega)
      gi_wp2
      go_roundw
      case rel => exact ⟨k + 1, pre2, hk1, HK1.out, rfl, rfl, HT5, HJj, HWj⟩
      case measure => simp [intOf]; omega
end Go.Proofs.Ytinjbpbpgogdhaa.Own
end
section
namespace Go.Proofs.Ytinjbpbpgogdhaa.Own
open Go.RowKit Go.Shelf Go.Proofs.YtinjbpbpgogdhaaW.PrintWords Go.Proofs.YtinjbpbpgogdhaaW.PrintLast Go.Proofs.YtinjbpbpgogdhaaW.PrintMore
set_option linter.unusedVariables false
set_option linter.unusedSimpArgs false
set_option maxHeartbeats 2000000 in
set_option maxRecDepth 100000 in
/-- first, where it tells the first period. -/
theorem first_zero {w0 w : World} {g : Nat} {a0 a1 a2 a3 a8 : Int} {A4 A5 A6 A7 : Option Addr} {c4 c5 c6 c7 : Nat} {l4 l5 l7 : List Int} {l6 : List S58} {day sy sm sd mi : Int} (frm : Int) (hW : Wk0 w0 w g a0 a1 a2 a3 a8 A4 A5 A6 A7 c4 c5 c6 c7 l4 l5 l7 l6 day sy sm sd mi)
    (hf0 : 0 ≤ frm) (hf1 : frm ≤ 158310720) (hd0 : 0 ≤ day) (hd1 : day ≤ 109938) (h : 0 < a2 ∨ frm / 1440 ≤ day) :
    Calls Try.prog 16 #[.pointer (some ⟨g, 0, none⟩), .int .i64 frm] w fun e w' => e = .returned (.int .i64 0) ∧ w' = w := by
  have q2 := cell_eq (blk_cell hW.hg 2) rfl
  have q9 := cell_eq (blk_cell hW.hg 9) rfl
  clear hW
  have ht : Int.tdiv frm 1440 = frm / 1440 := Int.tdiv_eq_ediv_of_nonneg hf0
  obtain ⟨t, hft⟩ : ∃ t, t = frm / 1440 := ⟨_, rfl⟩
  have hft0 : 0 ≤ t ∧ t ≤ 109938 := by omega
  rw [← hft] at ht h
  clear hft hf0 hf1
  have w1 : wrap64 t = t := IntWalk.wrap64_in _ (by omega)
  have w2 : wrap64 (t - day) = t - day := by clear w1; exact IntWalk.wrap64_in _ (by omega)
  by_cases e2 : 0 < a2
  · clear h
    go_enter Try.func16, Try.ntmps16
    go_wp2
    go_ret
    exact ⟨rfl, rfl⟩
  · have h2 : t - day ≤ 0 := by clear w1 w2; omega
    clear h hft0 hd0 hd1
    go_enter Try.func16, Try.ntmps16
    go_wp2
    go_ret
    exact ⟨rfl, rfl⟩
set_option maxHeartbeats 1000000 in
/-- from: the walker and the period are laid into boxes; the function value captures these. -/
theorem from_any (p : Option Addr) (k : Int) (w : World) : Calls Try.prog 15 #[.pointer p, .int .i64 k] w fun e w' => e = .returned (.func (.func 28) #[] #[.pointer (some ⟨w.heap.size, 0, none⟩), .pointer (some ⟨w.heap.size + 1, 0, none⟩)]) ∧ w' = (w.alloc (.cells #[.pointer p] 39)).alloc (.cells #[.int .i64 k] 3) := by
  go_enter Try.func15, Try.ntmps15
  go_wp2
  go_ret
  exact ⟨by simp [World.alloc], rfl⟩
set_option maxHeartbeats 2000000 in
set_option maxRecDepth 100000 in
/-- from's closure hands out T, or a part of it. -/
theorem from1_stops {w0 w : World} {g : Nat} {a0 a1 a2 a3 a8 : Int} {A4 A5 A6 A7 : Option Addr} {c4 c5 c6 c7 : Nat} {l4 l5 l7 : List Int} {l6 : List S58} {day sy sm sd mi : Int} (n b1 b2 k0 : Nat) (T : List Int) (hW : Wk0 w0 w g a0 a1 a2 a3 a8 A4 A5 A6 A7 c4 c5 c6 c7 l4 l5 l7 l6 day sy sm sd mi)
    (ha0 : 1 ≤ a0 ∧ a0 ≤ 4) (ha1 : 1 ≤ a1 ∧ a1 ≤ 999) (ha8 : 0 ≤ a8 ∧ a8 ≤ 6) (hd0 : 0 ≤ day) (hd1 : day ≤ 109938) (hy0 : 1900 ≤ sy) (hy1 : sy ≤ 2200) (hm0 : 1 ≤ sm) (hm1 : sm ≤ 12) (hmi : 0 ≤ mi ∧ mi ≤ 1439) (hk0 : (k0 : Int) * a1 ≤ 110936)
    (hT : T = timesL a0 a1 a2 a3 a8 l4 l7 (dayB a0 l4 l5 l6 day sm sd) day sy sm mi k0)
    (h1 : w.cell? ⟨b1, 0, none⟩ = some (.pointer (some ⟨g, 0, none⟩))) (h2 : w.cell? ⟨b2, 0, none⟩ = some (.int .i64 (k0 : Int))) (hb1 : b1 < w.heap.size) (hb2 : b2 < w.heap.size) :
    SeqStopsK Fence.wide n Try.prog 28 #[.pointer (some ⟨b1, 0, none⟩), .pointer (some ⟨b2, 0, none⟩)] (fun x : Int => #[Value.int .i64 x]) (Kp w0.heap.size) (fun xs => xs = T) (fun pre => pre <+: T) T.length w := fun l J Jx W hB hJ hJx hY h0 => by
  have q1 : W.cell? ⟨b1, 0, none⟩ = some (.pointer (some ⟨g, 0, none⟩)) := (hB.cell (p := ⟨b1, 0, none⟩) hb1).trans h1
  have q2 : W.cell? ⟨b2, 0, none⟩ = some (.int .i64 (k0 : Int)) := (hB.cell (p := ⟨b2, 0, none⟩) hb2).trans h2
  have HT := Lib.hid (times_in (n - 1) l k0 T J Jx W (hW.below hB) ha0 ha1 ha8 hd0 hd1 hy0 hy1 hm0 hm1 hmi hk0 hT hJ (fun pre x W1 h3 h4 => yieldAt_any rfl _ (hY pre x W1 h3 h4)) h0)
  clear hW hT hB hJ hJx hY h0 h1 h2 hb1 hb2 hk0
  refine callsIn_of_wp Try.func28 rfl trivial ?_ rfl
  simp only [Try.ntmps28, List.size_toArray, List.length_cons, List.length_nil, Nat.reduceAdd, Nat.reduceSub, Array.replicate_succ, Array.replicate_zero, List.push_toArray, List.append_toArray, List.nil_append, List.cons_append]
  gi_wp2_with (refine ⟨trivial, wdep _, ?_⟩; (with_reducible refine CallsIn.mono HT.out ?_); rintro e w2 ⟨⟨v, rfl⟩, hp⟩; have HP := Lib.hid hp; clear hp)
  go_end0
  exact ⟨⟨_, rfl⟩, HP.out.imp (fun h => ⟨T, rfl, h⟩) (fun h => h)⟩
end Go.Proofs.Ytinjbpbpgogdhaa.Own
end
section
namespace Go.Proofs.Ytinjbpbpgogdhaa.Own
open Go.RowKit Go.Shelf Go.Proofs.YtinjbpbpgogdhaaW.PrintWords Go.Proofs.YtinjbpbpgogdhaaW.PrintLast Go.Proofs.YtinjbpbpgogdhaaW.PrintMore
set_option linter.unusedVariables false
set_option linter.unusedSimpArgs false
set_option maxHeartbeats 4000000 in
set_option maxRecDepth 100000 in
/-- walk, where it makes a walker. -/
theorem walk_yes {a0 a1 a2 a3 a8 : Int} {A4 A5 A6 A7 : Option Addr} {c4 c5 c6 c7 : Nat} {l4 l5 l7 : List Int} {l6 : List S58} {Y M D : Int} (start : Int) (w : World) (hR : RC w A4 A5 A6 A7 c4 c5 c6 c7 l4 l5 l7 l6) (hm : mayB a0 a1 a2 a3 l4 l5 l6 l7 a8 = true)
    (hs0 : 0 ≤ start) (hs1 : start < 158310720) (hd : civil_Date.f 3000 (start / 1440) = some (Y, M, D, true)) :
    Calls Try.prog 14 #[.agg #[.int .i64 a0, .int .i64 a1, .int .i64 a2, .int .i64 a3, .slice A4 l4.length c4, .slice A5 l5.length c5, .slice A6 l6.length c6, .slice A7 l7.length c7, .int .i64 a8], .int .i64 start] w fun e w' => ∃ g, e = .returned (.tuple #[.pointer (some ⟨g, 0, none⟩), .bool true]) ∧ Wk0 w w' g a0 a1 a2 a3 a8 A4 A5 A6 A7 c4 c5 c6 c7 l4 l5 l7 l6 (start / 1440) Y M D (start % 1440) := by
  have HR := Lib.hid hR
  clear hR
  obtain ⟨day, hday⟩ : ∃ t, t = start / 1440 := ⟨_, rfl⟩
  obtain ⟨mi, hmi⟩ : ∃ t, t = start % 1440 := ⟨_, rfl⟩
  have ht : Int.tdiv start 1440 = day := by rw [hday]; exact Int.tdiv_eq_ediv_of_nonneg hs0
  have ht2 : Int.tmod start 1440 = mi := by rw [hmi]; exact Int.tmod_eq_emod_of_nonneg hs0
  have hdb : 0 ≤ day ∧ day < 109938 := by omega
  have hmb : 0 ≤ mi ∧ mi < 1440 := by omega
  rw [← hday] at hd ⊢
  rw [← hmi]
  clear hday hmi
  have k1 : wrap64 day = day := IntWalk.wrap64_in _ (by omega)
  have k2 : wrap64 mi = mi := by clear k1; exact IntWalk.wrap64_in _ (by omega)
  go_enter Try.func14, Try.ntmps14
  go_upto_region 1 with (fail)
  have H1 : Hid ((w.alloc (.cells #[.int .i64 a0, .int .i64 a1, .int .i64 a2, .int .i64 a3, .slice A4 l4.length c4, .slice A5 l5.length c5, .slice A6 l6.length c6, .slice A7 l7.length c7, .int .i64 a8] 25)).heap[w.heap.size]? = some (.cells #[.int .i64 a0, .int .i64 a1, .int .i64 a2, .int .i64 a3, .slice A4 l4.length c4, .slice A5 l5.length c5, .slice A6 l6.length c6, .slice A7 l7.length c7, .int .i64 a8] 25 (0, 0))) := Lib.hid (alloc_blk _ _ _)
  have HB1 : Hid (Below w.heap.size w (w.alloc (.cells #[.int .i64 a0, .int .i64 a1, .int .i64 a2, .int .i64 a3, .slice A4 l4.length c4, .slice A5 l5.length c5, .slice A6 l6.length c6, .slice A7 l7.length c7, .int .i64 a8] 25))) := Lib.hid below_new_
  obtain ⟨g1, hg1⟩ : ∃ x, x = w.heap.size := ⟨_, rfl⟩
  rw [← hg1] at H1 ⊢
  clear hg1
  generalize w.alloc (.cells #[.int .i64 a0, .int .i64 a1, .int .i64 a2, .int .i64 a3, .slice A4 l4.length c4, .slice A5 l5.length c5, .slice A6 l6.length c6, .slice A7 l7.length c7, .int .i64 a8] 25) = w1 at H1 HB1 ⊢
  have HMY := Lib.hid (rule_May_yes w1 (HR.out.below HB1.out) hm)
  have HDT := Lib.hid (fun W => civil_Date.calls 3000 day Y M D true W hd)
  clear hm hd
  have q0 := cell_eq (blk_cell H1.out 0) rfl
  have q1 := cell_eq (blk_cell H1.out 1) rfl
  have q2 := cell_eq (blk_cell H1.out 2) rfl
  have q3 := cell_eq (blk_cell H1.out 3) rfl
  have q4 := cell_eq (blk_cell H1.out 4) rfl
  have q5 := cell_eq (blk_cell H1.out 5) rfl
  have q6 := cell_eq (blk_cell H1.out 6) rfl
  have q7 := cell_eq (blk_cell H1.out 7) rfl
  have q8 := cell_eq (blk_cell H1.out 8) rfl
  go_upto_region 3 with (first | ((with_reducible refine HMY.out.mono ?_); rintro e w2 ⟨rfl, hb2⟩; have HB2 := Lib.hid hb2; clear hb2))
  have H2 := Lib.hid (keep_below HB2.out H1.out)
  have HB02 := Lib.hid (HB1.out.trans (HB2.out.mono HB1.out.size))
  clear q0 q1 q2 q3 q4 q5 q6 q7 q8
  go_upto_region 5 with (first | ((with_reducible refine (HDT.out _).mono ?_); rintro e w3 ⟨rfl, hb3⟩; have HB3 := Lib.hid hb3; clear hb3))
  have H4 : Hid ((w3.alloc (.cells #[.int .i64 Y, .int .i64 M, .int .i64 D] 37)).heap[g1]? = some (.cells #[.int .i64 a0, .int .i64 a1, .int .i64 a2, .int .i64 a3, .slice A4 l4.length c4, .slice A5 l5.length c5, .slice A6 l6.length c6, .slice A7 l7.length c7, .int .i64 a8] 25 (0, 0))) := Lib.hid (keep_alloc (keep_below HB3.out H2.out) _)
  have H5 : Hid ((w3.alloc (.cells #[.int .i64 Y, .int .i64 M, .int .i64 D] 37)).heap[w3.heap.size]? = some (.cells #[.int .i64 Y, .int .i64 M, .int .i64 D] 37 (0, 0))) := Lib.hid (alloc_blk _ _ _)
  have HB4 : Hid (Below w.heap.size w (w3.alloc (.cells #[.int .i64 Y, .int .i64 M, .int .i64 D] 37))) := Lib.hid (HB02.out.trans ((HB3.out.trans ((below_new_ (o := (.cells #[.int .i64 Y, .int .i64 M, .int .i64 D] 37))).mono HB3.out.size)).mono HB02.out.size))
  obtain ⟨g3, hg3⟩ : ∃ x, x = w3.heap.size := ⟨_, rfl⟩
  rw [← hg3] at H5 ⊢
  clear hg3
  generalize w3.alloc (.cells #[.int .i64 Y, .int .i64 M, .int .i64 D] 37) = w4 at H4 H5 HB4 ⊢
  have q0 := cell_eq (blk_cell H4.out 0) rfl
  have q1 := cell_eq (blk_cell H4.out 1) rfl
  have q2 := cell_eq (blk_cell H4.out 2) rfl
  have q3 := cell_eq (blk_cell H4.out 3) rfl
  have q4 := cell_eq (blk_cell H4.out 4) rfl
  have q5 := cell_eq (blk_cell H4.out 5) rfl
  have q6 := cell_eq (blk_cell H4.out 6) rfl
  have q7 := cell_eq (blk_cell H4.out 7) rfl
  have q8 := cell_eq (blk_cell H4.out 8) rfl
  have r0 := cell_eq (blk_cell H5.out 0) rfl
  have r1 := cell_eq (blk_cell H5.out 1) rfl
  have r2 := cell_eq (blk_cell H5.out 2) rfl
  go_wp2
  go_ret2
  refine ⟨w4.heap.size, rfl, alloc_blk _ _ _, HR.out, HB4.out.trans (below_new_.mono HB4.out.size), HB4.out.size⟩
end Go.Proofs.Ytinjbpbpgogdhaa.Own
end
