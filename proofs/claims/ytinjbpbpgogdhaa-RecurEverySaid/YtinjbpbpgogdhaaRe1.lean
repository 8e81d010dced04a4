import Derived.Test.YtinjbpbpgogdhaaRf0
namespace Go.Proofs.Ytinjbpbpgogdhaa.Own
open Go.RowKit Go.Shelf Go.Proofs.YtinjbpbpgogdhaaW.PrintWords Go.Proofs.YtinjbpbpgogdhaaW.PrintLast Go.Proofs.YtinjbpbpgogdhaaW.PrintMore
set_option linter.unusedVariables false
set_option linter.unusedSimpArgs false
theorem wdep (p : Prop) (h : Fence.wide.depth.isSome = true) : p := by cases h
theorem wk0 {k : Nat} {a1 : Int} (h : (k : Int) * a1 ≤ 110936) (h1 : 1 ≤ a1) : k ≤ 110936 := by
  have : (k : Int) * 1 ≤ (k : Int) * a1 := Int.mul_le_mul_of_nonneg_left h1 (by omega)
  omega
set_option maxHeartbeats 8000000 in
set_option maxRecDepth 100000 in
/-- times: hands out T, or a part of it. -/
theorem times_in {w0 : World} {g : Nat} {a0 a1 a2 a3 a8 : Int} {A4 A5 A6 A7 : Option Addr} {c4 c5 c6 c7 : Nat} {l4 l5 l7 : List Int} {l6 : List S58} {day sy sm sd mi : Int} (m l k0 : Nat) (T : List Int) (J Jx : List Int → World → Prop) (W : World) (hW : Wk0 w0 W g a0 a1 a2 a3 a8 A4 A5 A6 A7 c4 c5 c6 c7 l4 l5 l7 l6 day sy sm sd mi)
    (ha0 : 1 ≤ a0 ∧ a0 ≤ 4) (ha1 : 1 ≤ a1 ∧ a1 ≤ 999) (ha8 : 0 ≤ a8 ∧ a8 ≤ 6) (hd0 : 0 ≤ day) (hd1 : day ≤ 109938) (hy0 : 1900 ≤ sy) (hy1 : sy ≤ 2200) (hm0 : 1 ≤ sm) (hm1 : sm ≤ 12) (hmi : 0 ≤ mi ∧ mi ≤ 1439) (hk0 : (k0 : Int) * a1 ≤ 110936)
    (hT : T = timesL a0 a1 a2 a3 a8 l4 l7 (dayB a0 l4 l5 l6 day sm sd) day sy sm mi k0) (hJ : AbidesFrom W.heap.size J)
    (hY : ∀ pre x W1, J pre W1 → pre.length < T.length → YieldAt Fence.wide (m - 1) Try.prog l #[.int .i64 x] W1 fun e W' => (e = .returned (.bool true) ∧ J (pre ++ [x]) W' ∧ Kp w0.heap.size W1 W') ∨ (e = .returned (.bool false) ∧ Jx (pre ++ [x]) W'))
    (h0 : J [] W) : CallsIn Fence.wide m Try.prog 29 #[.pointer (some ⟨g, 0, none⟩), .int .i64 (k0 : Int), .func (.yield l) #[] #[]] W fun e W' => (∃ v, e = .returned v) ∧ (J T W' ∨ ∃ pre, pre <+: T ∧ Jx pre W') := by
  have HTL : Hid (T.length ≤ 44400000) := Lib.hid (by rw [hT]; exact timesL_len _ _ _ _ _ _ _ _ _ _ _ _ _)
  obtain ⟨P, hP⟩ : ∃ P, P = dayB a0 l4 l5 l6 day sm sd := ⟨_, rfl⟩
  obtain ⟨DL, hDL⟩ : ∃ f, f = DLp a0 a1 a8 l4 l7 P day sy sm := ⟨_, rfl⟩
  obtain ⟨more, hmore⟩ : ∃ f : Nat → Nat → List Int, f = fun k g => goPer DL a2 a3 day mi (111000 - k) k g := ⟨_, rfl⟩
  obtain ⟨WT, hWT⟩ : ∃ f : World → Prop, f = fun W => Wk0 w0 W g a0 a1 a2 a3 a8 A4 A5 A6 A7 c4 c5 c6 c7 l4 l5 l7 l6 day sy sm sd mi := ⟨_, rfl⟩
  have HWT := Lib.hid hWT
  have HW : Hid (WT W) := Lib.hid (by rw [hWT]; exact hW)
  have HT0 : Hid (T = [] ++ more k0 ([] : List Int).length) := Lib.hid (by rw [hT, hmore, hDL, hP]; rfl)
  have HY := Lib.hid hY
  have HJA := Lib.hid hJ
  have H0 := Lib.hid h0
  have HP := Lib.hid hP
  have HDL := Lib.hid hDL
  have HMO := Lib.hid hmore
  have HK0 := Lib.hid hk0
  clear hT hP hDL hmore hWT hW hY hJ h0 hk0
  refine callsIn_of_wp Try.func29 rfl trivial ?_ rfl
  simp only [Try.ntmps29, List.size_toArray, List.length_cons, List.length_nil, Nat.reduceAdd, Nat.reduceSub, Array.replicate_succ, Array.replicate_zero, List.push_toArray, List.append_toArray, List.nil_append, List.cons_append]
  gi_wp2
  gi_loopw [1, 6] (fun k' g' wr => ∃ (k : Nat) (pre2 : List Int), k ≤ 110936 ∧ (k : Int) * a1 ≤ 110936 ∧ k' = .int .i64 (k : Int) ∧ g' = .int .i64 (pre2.length : Int) ∧ Hid (T = pre2 ++ more k pre2.length) ∧ Hid (J pre2 wr) ∧ Hid (WT wr)) (fun k' _ _ => 111000 - (intOf k').toNat)
  case atStart => exact ⟨k0, [], wk0 HK0.out ha1.1, HK0.out, rfl, rfl, HT0, H0, HW⟩
  case round =>
  obtain ⟨k, pre2, hk, hka, rfl, rfl, HT, HJr, HWr⟩ := hrel
  have HWW : Hid (Wk0 w0 wr g a0 a1 a2 a3 a8 A4 A5 A6 A7 c4 c5 c6 c7 l4 l5 l7 l6 day sy sm sd mi) := Lib.hid (by have h := HWr.out; rw [HWT.out] at h; exact h)
  obtain ⟨PL, hPL⟩ : ∃ f, f = periodL a0 a8 l4 P day sy sm ((k : Int) * a1) := ⟨_, rfl⟩
  have HPEC : Hid (Calls Try.prog 39 #[.pointer (some ⟨g, 0, none⟩), .int .i64 (k : Int)] wr (PeriodPost w0 wr PL)) := Lib.hid (by
    rw [hPL, HP.out]
    exact period_any (k : Int) ((k : Int) * a1) wr HWW.out ha0 ha8 rfl (Int.mul_nonneg (by omega) (by omega)) (by omega) hd0 hd1 hy0 hy1 hm0 hm1)
  have HPLN : Hid (PL.1.length ≤ 400) := Lib.hid (by rw [hPL]; exact periodL_len _ _ _ _ _ _ _ _)
  obtain ⟨L, hL⟩ : ∃ f, f = placesL l7 PL.1 := ⟨_, rfl⟩
  have HDLK : Hid (DL k = (L, PL.2)) := Lib.hid (by rw [HDL.out, hL, hPL]; rfl)
  have HCAL : Hid (∀ j, j < L.length → 0 ≤ rd L (j : Int) ∧ rd L (j : Int) < 109938) := Lib.hid (fun j hj => by
    have h := rd_mem hj
    rw [hL, hPL, HP.out] at h
    have h2 := DLp_bd (a1 := a1) (k := k) h
    rw [hL, hPL, HP.out]
    exact h2)
  have HLN : Hid (L.length ≤ 400) := Lib.hid (by rw [hL]; exact Nat.le_trans (placesL_len _ _) HPLN.out)
  have HLP : Hid (∀ (v : Value) (w2 : World), Wk0 w0 w2 g a0 a1 a2 a3 a8 A4 A5 A6 A7 c4 c5 c6 c7 l4 l5 l7 l6 day sy sm sd mi → Kd.R (Kd.int .i64) 3 w2 w0.heap.size (fun _ => True) v PL.1 → Calls Try.prog 40 #[.pointer (some ⟨g, 0, none⟩), v] w2 (PlacesPost w0 w2 L)) := Lib.hid (fun v w2 h1 h2 => by
    rw [hL]
    exact places_any v PL.1 w2 h1 h2 (Nat.le_trans HPLN.out (by decide)))
  have HMORE : Hid (PL.2 = true → (k : Int) * a1 < 109938) := Lib.hid (fun h => by rw [hPL] at h; exact period_more hd0 hd1 hy0 hm0 h)
  obtain ⟨ds, mr⟩ := PL
  dsimp only at HPEC HDLK HMORE HLP HPLN
  clear hPL hL
  cases mr with
  | false =>
    have HTE : Hid (T = pre2) := Lib.hid (by
      have h := HT.out
      rw [HMO.out] at h
      dsimp only at h
      rw [show 111000 - k = (110999 - k) + 1 from by omega, goPer_no (by rw [HDLK.out]), List.append_nil] at h
      exact h)
    gi_wp2_with (refine ⟨trivial, wdep _, ?_⟩; (with_reducible refine CallsIn.mono (callsIn_wide.2 HPEC.out) ?_); rintro e w2 ⟨v, rfl, hR2, hk2, hb2⟩; have HR2 := Lib.hid hR2; have HK2 := Lib.hid hk2; have HB2 := Lib.hid hb2; clear hR2 hk2 hb2)
    refine bodyPost_ret (results_none rfl _ _ _) rfl ?_
    refine ⟨⟨_, rfl⟩, .inl ?_⟩
    rw [HTE.out]
    exact abides_kept HJA.out HK2.out HWW.out.hb HB2.out HJr.out
  | true =>
    have HK1 : Hid (((k + 1 : Nat) : Int) * a1 ≤ 110936) := Lib.hid (by
      have h := HMORE.out rfl
      rw [show ((k + 1 : Nat) : Int) = (k : Int) + 1 from by omega, Int.add_mul]
      omega)
    have hk1 : k + 1 ≤ 110936 := wk0 HK1.out ha1.1
    obtain ⟨rest, hrest⟩ : ∃ f : List Int → Nat → List Int, f = fun ns g => behind (goDays a2 a3 day mi ns g) (more (k + 1)) g := ⟨_, rfl⟩
    have HRE := Lib.hid hrest
    clear hrest
    have HTJ : Hid (T = pre2 ++ rest (L.drop 0) pre2.length) := Lib.hid (by
      have h := HT.out
      rw [HRE.out, List.drop_zero]
      rw [HMO.out] at h ⊢
      dsimp only at h ⊢
      rw [show 111000 - k = (111000 - (k + 1)) + 1 from by omega, goPer_yes (by rw [HDLK.out])] at h
      rw [HDLK.out] at h
      exact h)
    clear HT hka HMORE HDLK
    gi_wp2_with (refine ⟨trivial, wdep _, ?_⟩; first | ((with_reducible refine CallsIn.mono (callsIn_wide.2 HPEC.out) ?_); rintro e w2 ⟨v, rfl, hR2, hk2, hb2⟩; have HR2 := Lib.hid hR2; have HK2 := Lib.hid hk2; have HB2 := Lib.hid hb2; clear hR2 hk2 hb2; have HW2 : Hid (Wk0 w0 w2 g a0 a1 a2 a3 a8 A4 A5 A6 A7 c4 c5 c6 c7 l4 l5 l7 l6 day sy sm sd mi) := Lib.hid ⟨kept_below HK2.out HWW.out.hg, HWW.out.rc, HB2.out, HWW.out.ng⟩; have HPL := Lib.hid (HLP.out _ _ HW2.out HR2.out)) | ((with_reducible refine CallsIn.mono (callsIn_wide.2 HPL.out) ?_); rintro e w4 ⟨v4, rfl, hR4, hk4, hb4⟩; have HR4 := Lib.hid hR4; have HK4 := Lib.hid hk4; have HB4 := Lib.hid hb4; clear hR4 hk4 hb4; obtain ⟨vA, vc, rfl, hx1, hx2⟩ := Kd.R_reads HR4.out; clear hx1 hx2))
    have HJ4 : Hid (J pre2 w4) := Lib.hid (abides_kept HJA.out HK4.out HB2.out HB4.out (abides_kept HJA.out HK2.out HWW.out.hb HB2.out HJr.out))
    have HW4 : Hid (WT w4) := Lib.hid (by rw [HWT.out]; exact ⟨kept_below HK4.out HW2.out.hg, HWW.out.rc, HB4.out, HWW.out.ng⟩)
    gi_loopw [26, 6] (fun i' g' wr => ∃ (j : Nat) (pre2 : List Int), j ≤ L.length ∧ i' = .int .i64 (j : Int) ∧ g' = .int .i64 (pre2.length : Int) ∧ Hid (T = pre2 ++ rest (L.drop j) pre2.length) ∧ Hid (J pre2 wr) ∧ Hid (WT wr) ∧ Hid (Kd.R (Kd.int .i64) 3 wr w0.heap.size (fun _ => True) (.slice vA L.length vc) L)) (fun i' _ _ => L.length - (intOf i').toNat)
    case atStart => exact ⟨0, pre2, Nat.zero_le _, rfl, rfl, HTJ, HJ4, HW4, HR4⟩
    case round =>
    clear HPEC HPL HLP
    obtain ⟨j, pre2, hj, rfl, rfl, HTj, HJj, HWj, HRj⟩ := hrel
    by_cases hlt : j < L.length
    · obtain ⟨x, hx⟩ : ∃ x, x = rd L (j : Int) := ⟨_, rfl⟩
      have hj1 : j + 1 ≤ L.length := hlt
      have hcl := HCAL.out j hlt
      rw [← hx] at hcl
      have hdrop : L.drop j = x :: L.drop (j + 1) := by rw [rd_drop hlt, hx]
      obtain ⟨ad, rfl, hc1⟩ := Kd.at_int (Kd.R_reads' HRj.out).2.2 (j : Int) (by omega) (by omega)
      rw [Int.toNat_natCast, ← hx] at hc1
      clear hx
      have HWW := HWj.out
      rw [HWT.out] at HWW
      have q2 := cell_eq (blk_cell HWW.hg 2) rfl
      have q3 := cell_eq (blk_cell HWW.hg 3) rfl
      have q9 := cell_eq (blk_cell HWW.hg 9) rfl
      have q13 := cell_eq (blk_cell HWW.hg 13) rfl
      clear HWW
      have hpl : pre2.length ≤ 44400000 := by
        have h1 := HTL.out
        rw [HTj.out, List.length_append] at h1
        omega
      obtain ⟨gv, hgv⟩ : ∃ a : Int, a = (pre2.length : Int) := ⟨_, rfl⟩
      have HGV := Lib.hid hgv
      have hg0 : 0 ≤ gv ∧ gv ≤ 44400000 := by omega
      rw [← hgv]
      clear hpl
      have w1 : wrap64 (x * 1440) = x * 1440 := IntWalk.wrap64_in _ (by omega)
      have w2 : wrap64 (x * 1440 + mi) = x * 1440 + mi := by clear w1; exact IntWalk.wrap64_in _ (by omega)
      have w3 : wrap64 (gv + 1) = gv + 1 := by clear w1 w2; exact IntWalk.wrap64_in _ (by omega)
      have w4 : wrap64 ((j : Int) + 1) = (j : Int) + 1 := by clear w1 w2 w3; have hln := HLN.out; exact IntWalk.wrap64_in _ (by omega)
      clear hgv
      have HDR := Lib.hid hdrop
      clear hdrop
      by_cases hsk : x < day
      · have HT5 : Hid (T = pre2 ++ rest (L.drop (j + 1)) pre2.length) := Lib.hid (by
          have h := HTj.out
          rw [HRE.out] at h ⊢
          rw [HDR.out] at h
          rw [h]
          show pre2 ++ behind (goDays a2 a3 day mi (x :: L.drop (j + 1)) pre2.length) (more (k + 1)) pre2.length = _
          rw [behind_skip _ hsk])
        gi_wp2
        refine ⟨⟨j + 1, pre2, hj1, by rw [w4]; rfl, by rw [HGV.out], HT5, HJj, HWj, HRj⟩, ?_⟩
        rw [w4]
        clear w1 w2 w3 w4
        simp only [intOf]
        omega
      · by_cases e3 : 0 ≤ a3
        · by_cases e3b : a3 < x * 1440 + mi
          · have HT5 : Hid (T = pre2) := Lib.hid (by
              have h := HTj.out
              rw [HRE.out] at h
              rw [HDR.out] at h
              have hend : endT a2 a3 (x * 1440 + mi) pre2.length = true := by
                unfold endT
                rw [← HGV.out]
                simp [*]
              rw [h]
              show pre2 ++ behind (goDays a2 a3 day mi (x :: L.drop (j + 1)) pre2.length) (more (k + 1)) pre2.length = _
              rw [behind_end _ hsk hend, List.append_nil])
            gi_wp2
            refine bodyPost_ret (results_none rfl _ _ _) rfl ?_
            exact ⟨⟨_, rfl⟩, .inl (by rw [HT5.out]; exact HJj.out)⟩
          · by_cases e2 : 0 < a2
            · by_cases eg : gv = a2
              · have egb : (gv == a2) = true := by rw [eg]; exact beq_self_eq_true _
                have HT5 : Hid (T = pre2) := Lib.hid (by
                  have h := HTj.out
                  rw [HRE.out] at h
                  rw [HDR.out] at h
                  have hend : endT a2 a3 (x * 1440 + mi) pre2.length = true := by
                    unfold endT
                    rw [← HGV.out]
                    simp [*]
                  rw [h]
                  show pre2 ++ behind (goDays a2 a3 day mi (x :: L.drop (j + 1)) pre2.length) (more (k + 1)) pre2.length = _
                  rw [behind_end _ hsk hend, List.append_nil])
                gi_wp2
                refine bodyPost_ret (results_none rfl _ _ _) rfl ?_
                exact ⟨⟨_, rfl⟩, .inl (by rw [HT5.out]; exact HJj.out)⟩
              · have egb : (gv == a2) = false := by rw [Bool.eq_false_iff]; intro h; exact eg (eq_of_beq h)
                have HT5 : Hid (T = (pre2 ++ [x * 1440 + mi]) ++ rest (L.drop (j + 1)) (pre2.length + 1)) := Lib.hid (by
                  have h := HTj.out
                  rw [HRE.out] at h ⊢
                  rw [HDR.out] at h
                  have hend : endT a2 a3 (x * 1440 + mi) pre2.length = false := by
                    unfold endT
                    rw [← HGV.out]
                    simp [*]
                  rw [h]
                  show pre2 ++ behind (goDays a2 a3 day mi (x :: L.drop (j + 1)) pre2.length) (more (k + 1)) pre2.length = _
                  rw [behind_more _ hsk hend, List.append_assoc]
                  rfl)
                obtain ⟨fn, tmps, assign, body, hy, hR⟩ := HY.out pre2 (x * 1440 + mi) _ HJj.out (by
                  have h := HT5.out
                  rw [h, List.length_append, List.length_append, List.length_singleton]
                  clear w1 w2 w3 w4
                  omega)
                have HRY := Lib.hid hR
                clear hR
                gi_wp2
                refine ⟨wdep _, RoundIn.mono HRY.out ?_⟩
                rintro e w5 (⟨rfl, hJ5, hk5⟩ | ⟨rfl, hJx5⟩)
                · have HJ5 := Lib.hid hJ5
                  have HK5 := Lib.hid hk5
                  clear hJ5 hk5
                  gi_wp2
                  refine ⟨⟨j + 1, pre2 ++ [x * 1440 + mi], hj1, by rw [w4]; rfl, by rw [List.length_append, List.length_singleton, HGV.out]; rfl, Lib.hid (by rw [List.length_append, List.length_singleton]; exact HT5.out), HJ5, Lib.hid (by have h := HWj.out; rw [HWT.out] at h ⊢; exact HK5.out.wk h), Lib.hid (HK5.out.row HRj.out)⟩, ?_⟩
                  rw [w4]
                  clear w1 w2 w3 w4
                  simp only [intOf]
                  omega
                · have HJ5 := Lib.hid hJx5
                  clear hJx5
                  gi_wp2
                  refine bodyPost_ret (results_none rfl _ _ _) rfl ?_
                  exact ⟨⟨_, rfl⟩, .inr ⟨pre2 ++ [x * 1440 + mi], ⟨_, HT5.out.symm⟩, HJ5.out⟩⟩
            · have HT5 : Hid (T = (pre2 ++ [x * 1440 + mi]) ++ rest (L.drop (j + 1)) (pre2.length + 1)) := Lib.hid (by
                have h := HTj.out
                rw [HRE.out] at h ⊢
                rw [HDR.out] at h
                have hend : endT a2 a3 (x * 1440 + mi) pre2.length = false := by
                  unfold endT
                  rw [← HGV.out]
                  simp [*]
                rw [h]
                show pre2 ++ behind (goDays a2 a3 day mi (x :: L.drop (j + 1)) pre2.length) (more (k + 1)) pre2.length = _
                rw [behind_more _ hsk hend, List.append_assoc]
                rfl)
              obtain ⟨fn, tmps, assign, body, hy, hR⟩ := HY.out pre2 (x * 1440 + mi) _ HJj.out (by
                have h := HT5.out
                rw [h, List.length_append, List.length_append, List.length_singleton]
                clear w1 w2 w3 w4
                omega)
              have HRY := Lib.hid hR
              clear hR
              gi_wp2
              refine ⟨wdep _, RoundIn.mono HRY.out ?_⟩
              rintro e w5 (⟨rfl, hJ5, hk5⟩ | ⟨rfl, hJx5⟩)
              · have HJ5 := Lib.hid hJ5
                have HK5 := Lib.hid hk5
                clear hJ5 hk5
                gi_wp2
                refine ⟨⟨j + 1, pre2 ++ [x * 1440 + mi], hj1, by rw [w4]; rfl, by rw [List.length_append, List.length_singleton, HGV.out]; rfl, Lib.hid (by rw [List.length_append, List.length_singleton]; exact HT5.out), HJ5, Lib.hid (by have h := HWj.out; rw [HWT.out] at h ⊢; exact HK5.out.wk h), Lib.hid (HK5.out.row HRj.out)⟩, ?_⟩
                rw [w4]
                clear w1 w2 w3 w4
                simp only [intOf]
                omega
              · have HJ5 := Lib.hid hJx5
                clear hJx5
                gi_wp2
                refine bodyPost_ret (results_none rfl _ _ _) rfl ?_
                exact ⟨⟨_, rfl⟩, .inr ⟨pre2 ++ [x * 1440 + mi], ⟨_, HT5.out.symm⟩, HJ5.out⟩⟩
        · by_cases e2 : 0 < a2
          · by_cases eg : gv = a2
            · have egb : (gv == a2) = true := by rw [eg]; exact beq_self_eq_true _
              have HT5 : Hid (T = pre2) := Lib.hid (by
                have h := HTj.out
                rw [HRE.out] at h
                rw [HDR.out] at h
                have hend : endT a2 a3 (x * 1440 + mi) pre2.length = true := by
                  unfold endT
                  rw [← HGV.out]
                  simp [*]
                rw [h]
                show pre2 ++ behind (goDays a2 a3 day mi (x :: L.drop (j + 1)) pre2.length) (more (k + 1)) pre2.length = _
                rw [behind_end _ hsk hend, List.append_nil])
              gi_wp2
              refine bodyPost_ret (results_none rfl _ _ _) rfl ?_
              exact ⟨⟨_, rfl⟩, .inl (by rw [HT5.out]; exact HJj.out)⟩
            · have egb : (gv == a2) = false := by rw [Bool.eq_false_iff]; intro h; exact eg (eq_of_beq h)
              have HT5 : Hid (T = (pre2 ++ [x * 1440 + mi]) ++ rest (L.drop (j + 1)) (pre2.length + 1)) := Lib.hid (by
                have h := HTj.out
                rw [HRE.out] at h ⊢
                rw [HDR.out] at h
                have hend : endT a2 a3 (x * 1440 + mi) pre2.length = false := by
                  unfold endT
                  rw [← HGV.out]
                  simp [*]
                rw [h]
                show pre2 ++ behind (goDays a2 a3 day mi (x :: L.drop (j + 1)) pre2.length) (more (k + 1)) pre2.length = _
                rw [behind_more _ hsk hend, List.append_assoc]
                rfl)
              obtain ⟨fn, tmps, assign, body, hy, hR⟩ := HY.out pre2 (x * 1440 + mi) _ HJj.out (by
                have h := HT5.out
                rw [h, List.length_append, List.length_append, List.length_singleton]
                clear w1 w2 w3 w4
                omega)
              have HRY := Lib.hid hR
              clear hR
              gi_wp2
              refine ⟨wdep _, RoundIn.mono HRY.out ?_⟩
              rintro e w5 (⟨rfl, hJ5, hk5⟩ | ⟨rfl, hJx5⟩)
              · have HJ5 := Lib.hid hJ5
                have HK5 := Lib.hid hk5
                clear hJ5 hk5
                gi_wp2
                refine ⟨⟨j + 1, pre2 ++ [x * 1440 + mi], hj1, by rw [w4]; rfl, by rw [List.length_append, List.length_singleton, HGV.out]; rfl, Lib.hid (by rw [List.length_append, List.length_singleton]; exact HT5.out), HJ5, Lib.hid (by have h := HWj.out; rw [HWT.out] at h ⊢; exact HK5.out.wk h), Lib.hid (HK5.out.row HRj.out)⟩, ?_⟩
                rw [w4]
                clear w1 w2 w3 w4
                simp only [intOf]
                omega
              · have HJ5 := Lib.hid hJx5
                clear hJx5
                gi_wp2
                refine bodyPost_ret (results_none rfl _ _ _) rfl ?_
                exact ⟨⟨_, rfl⟩, .inr ⟨pre2 ++ [x * 1440 + mi], ⟨_, HT5.out.symm⟩, HJ5.out⟩⟩
          · have HT5 : Hid (T = (pre2 ++ [x * 1440 + mi]) ++ rest (L.drop (j + 1)) (pre2.length + 1)) := Lib.hid (by
              have h := HTj.out
              rw [HRE.out] at h ⊢
              rw [HDR.out] at h
              have hend : endT a2 a3 (x * 1440 + mi) pre2.length = false := by
                unfold endT
                rw [← HGV.out]
                simp [*]
              rw [h]
              show pre2 ++ behind (goDays a2 a3 day mi (x :: L.drop (j + 1)) pre2.length) (more (k + 1)) pre2.length = _
              rw [behind_more _ hsk hend, List.append_assoc]
              rfl)
            obtain ⟨fn, tmps, assign, body, hy, hR⟩ := HY.out pre2 (x * 1440 + mi) _ HJj.out (by
              have h := HT5.out
              rw [h, List.length_append, List.length_append, List.length_singleton]
              clear w1 w2 w3 w4
              omega)
            have HRY := Lib.hid hR
            clear hR
            gi_wp2
            refine ⟨wdep _, RoundIn.mono HRY.out ?_⟩
            rintro e w5 (⟨rfl, hJ5, hk5⟩ | ⟨rfl, hJx5⟩)
            · have HJ5 := Lib.hid hJ5
              have HK5 := Lib.hid hk5
              clear hJ5 hk5
              gi_wp2
              refine ⟨⟨j + 1, pre2 ++ [x * 1440 + mi], hj1, by rw [w4]; rfl, by rw [List.length_append, List.length_singleton, HGV.out]; rfl, Lib.hid (by rw [List.length_append, List.length_singleton]; exact HT5.out), HJ5, Lib.hid (by have h := HWj.out; rw [HWT.out] at h ⊢; exact HK5.out.wk h), Lib.hid (HK5.out.row HRj.out)⟩, ?_⟩
              rw [w4]
              clear w1 w2 w3 w4
              simp only [intOf]
              omega
            · have HJ5 := Lib.hid hJx5
              clear hJx5
              gi_wp2
              refine bodyPost_ret (results_none rfl _ _ _) rfl ?_
              exact ⟨⟨_, rfl⟩, .inr ⟨pre2 ++ [x * 1440 + mi], ⟨_, HT5.out.symm⟩, HJ5.out⟩⟩
    · obtain rfl : j = L.length := by omega
      have HT5 : Hid (T = pre2 ++ more (k + 1) pre2.length) := Lib.hid (by
        have h := HTj.out
        rw [HRE.out, List.drop_length] at h
        rw [h]
        show pre2 ++ behind ([], false) (more (k + 1)) pre2.length = _
        rw [behind_nil])
      have w5 : wrap64 ((k : Int) + 1) = ((k + 1 : Nat) : Int) := by rw [show ((k + 1 : Nat) : Int) = (k : Int) + 1 from by omega]; exact IntWalk.wrap64_in _ (by omega)
      gi_wp2
      go_roundw
      case rel => exact ⟨k + 1, pre2, hk1, HK1.out, rfl, rfl, HT5, HJj, HWj⟩
      case measure => simp [intOf]; omega
end Go.Proofs.Ytinjbpbpgogdhaa.Own
