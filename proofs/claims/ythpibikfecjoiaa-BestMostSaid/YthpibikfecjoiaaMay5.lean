import Derived.Test.YthpibikfecjoiaaMay4
namespace Go.Proofs.Ythpibikfecjoiaa.Own
open Go.RowKit Go.Proofs.YthpibikfecjoiaaW.PrintWords Go.Proofs.YthpibikfecjoiaaW.PrintLast Go.Proofs.YthpibikfecjoiaaW.PrintMore
set_option linter.unusedVariables false
set_option linter.unusedSimpArgs false
set_option maxHeartbeats 4000000 in
set_option maxRecDepth 100000 in
theorem may_any {lA A1 aA pA : Option Addr} {lc c1 ac pc : Nat} {l : List S33} {can : List Bool} {apart : List S39} {places : List Int} {seats : Int} (w : World)
    (hl : Kd.C k33 w lA l.length l) (hlc : l.length ≤ lc) (hc0 : Kd.C Kd.bool w A1 can.length can) (hc1 : can.length ≤ c1) (ha : Kd.C k39 w aA apart.length apart) (hac : apart.length ≤ ac) (hp : Kd.C (Kd.int .i64) w pA places.length places) (hpc : places.length ≤ pc)
    (h16 : l.length ≤ 16) (h6 : apart.length ≤ 1000000) (hp9 : places.length ≤ 1000) :
    Calls Try.prog 9 #[.slice lA l.length lc, .slice A1 can.length c1, .int .i64 seats, .slice aA apart.length ac, .slice pA places.length pc] w fun e w' => e = .returned (.bool (mayP (nbP apart) l can seats places)) ∧ Below w.heap.size w w' := by
  have HL := Lib.hid hl
  have HA := Lib.hid ha
  have HC := Lib.hid hc0
  have HP := Lib.hid hp
  clear hl ha hc0 hp
  obtain ⟨res, hres⟩ : ∃ r, r = mayP (nbP apart) l can seats places := ⟨_, rfl⟩
  rw [← hres]
  have HRES := Lib.hid hres
  clear hres
  go_enter Try.func9, Try.ntmps9
  go_upto_region 1 with (fail)
  have H5 : Hid (((w.alloc (.cells #[.slice lA l.length lc] 22)).alloc (.cells #[.slice aA apart.length ac] 24)).cell? ⟨w.heap.size, 0, none⟩ = some (.slice lA l.length lc)) := Lib.hid (blk_cell (keep_alloc (alloc_blk w _ 22) _) 0)
  have H8 : Hid (((w.alloc (.cells #[.slice lA l.length lc] 22)).alloc (.cells #[.slice aA apart.length ac] 24)).cell? ⟨w.heap.size + 1, 0, none⟩ = some (.slice aA apart.length ac)) := Lib.hid (by
    have := alloc_blk (w.alloc (.cells #[.slice lA l.length lc] 22)) #[.slice aA apart.length ac] 24
    rw [alloc_size] at this
    exact blk_cell this 0)
  have HW : Hid (Below w.heap.size w ((w.alloc (.cells #[.slice lA l.length lc] 22)).alloc (.cells #[.slice aA apart.length ac] 24))) := Lib.hid (((Below.refl _ _).alloc (Nat.le_refl _) _).alloc (by simp) _)
  obtain ⟨b5, hb5⟩ : ∃ b, b = w.heap.size := ⟨_, rfl⟩
  rw [← hb5] at H5 H8 ⊢
  have HB5 := Lib.hid hb5
  clear hb5
  generalize (w.alloc (.cells #[.slice lA l.length lc] 22)).alloc (.cells #[.slice aA apart.length ac] 24) = wE at H5 H8 HW ⊢
  go_cut [20] (fun v20 wc => v20 = .bool (decide (seats ≥ 0) && decide ((places.length : Int) > seats)) ∧ wc = wE)
  case first =>
    by_cases hs : 0 ≤ seats
    · go_wp2
      go_meet
      case rel => exact ⟨by rw [decide_eq_true (show seats ≥ 0 from hs)]; rfl, rfl⟩
    · go_wp2
      go_meet
      case rel => exact ⟨by rw [decide_eq_false (show ¬ seats ≥ 0 from fun h => by omega)]; rfl, rfl⟩
  case rest =>
    obtain ⟨rfl, rfl⟩ := hcut
    cases hg : (decide (seats ≥ 0) && decide ((places.length : Int) > seats)) with
    | true =>
      have HG := Lib.hid hg
      clear hg
      go_wp2
      go_ret
      exact ⟨by rw [HRES.out]; unfold mayP; rw [HG.out]; rfl, HW.out⟩
    | false =>
      have HG := Lib.hid hg
      clear hg
      go_wp2
      go_loopw [23] (fun i wr => MayRel wc (nbP apart) l can places i wr) (fun i _ => places.length - (intOf i).toNat)
      case atStart => exact ⟨0, Nat.zero_le _, rfl, Lib.hid rfl, Lib.hid (Below.refl _ _)⟩
      case round =>
        obtain ⟨j, hj, rfl, HOK, HB⟩ := hrel
        by_cases hlt : j < places.length
        · obtain ⟨pd, rfl, hpc0⟩ := Kd.at_int (Kd.C_below HP.out (HW.out.trans (HB.out.mono HW.out.size))) (j : Int) (by omega) (by omega)
          rw [Int.toNat_natCast] at hpc0
          obtain ⟨p, hp⟩ : ∃ p, p = rd places (j : Int) := ⟨_, rfl⟩
          rw [← hp] at hpc0
          have HPV := Lib.hid hp
          clear hp
          go_upto_region 6 with (fail)
          have HB6 := Lib.hid (HB.out.alloc HB.out.size (.cells #[.int .i64 p] 3))
          have c12 : (wr.alloc (.cells #[.int .i64 p] 3)).cell? ⟨wr.heap.size, 0, none⟩ = some (.int .i64 p) := blk_cell (alloc_blk wr _ 3) 0
          obtain ⟨b2, hb2⟩ : ∃ b, b = wr.heap.size := ⟨_, rfl⟩
          rw [← hb2] at c12 ⊢
          clear hpc0 hb2 HB
          generalize wr.alloc (.cells #[.int .i64 p] 3) = w6 at c12 HB6 ⊢
          have c5 := pw_cell_below HB6.out H5.out
          have HW6 := Lib.hid (HW.out.trans (HB6.out.mono HW.out.size))
          have HNO : Hid (∀ h : mayOk (nbP apart) l can places j = false, res = false) := Lib.hid fun h => by rw [HRES.out]; exact may_no hlt h
          have hj1 : (j : Int) ≤ (pc : Int) := by omega
          have hjl : (places.take j).length = j := by rw [List.length_take]; omega
          by_cases g0 : p < 0
          · refine r6a c12 c5 hj hpc h16 hp9 (decide_eq_true g0) (Lib.hid ?_)
            intro d28 d29 d30 d31 d32 d33 d34 d35 d36 d37 d38 d39 d40 d41 d42 d43 d44 d45 d46 d47 d48 d49 d50 d51 d52 d53 d54 nq
            go_wp2
            go_ret
            exact ⟨by rw [HNO.out (by unfold mayOk; rw [← HPV.out, decide_eq_false (by omega)]; rfl)]; first | done | rfl, pw_below_drewN HW6.out nq⟩
          · have z0 : 0 ≤ p := by omega
            by_cases g1 : p < (l.length : Int)
            · by_cases g2 : p < (can.length : Int)
              · obtain ⟨cd, rfl, hcc⟩ := Kd.at_bool (Kd.C_below HC.out HW6.out) p (by omega) (by omega)
                cases hcan : rdOf false can p with
                | false =>
                  rw [hcan] at hcc
                  have HCN := Lib.hid hcan
                  clear hcan
                  refine r6d c12 c5 hj hpc h16 hp9 (decide_eq_false g0) z0 (decide_eq_false (by omega)) (decide_eq_false (by omega)) g2 cd rfl hcc (Lib.hid ?_)
                  intro d28 d29 d30 d31 d32 d33 d34 d35 d36 d37 d38 d39 d40 d41 d42 d43 d44 d45 d46 d47 d48 d49 d50 d51 d52 d53 d54 nq
                  go_wp2
                  go_ret
                  exact ⟨by rw [HNO.out (by unfold mayOk; rw [← HPV.out, HCN.out, Bool.false_and, Bool.and_false, Bool.and_false, Bool.and_false])]; first | done | rfl, pw_below_drewN HW6.out nq⟩
                | true =>
                  rw [hcan] at hcc
                  have HCN := Lib.hid hcan
                  clear hcan
                  have HTK : Hid (∀ w', Below w.heap.size w w' → Kd.C (Kd.int .i64) w' (some pd) (places.take j).length (places.take j)) := Lib.hid fun w' hb => Kd.C_below (Kd.C_take HP.out hj) hb
                  have HCT : ∀ b : Bool, ((places.take j).any fun x => p == x) = b → Hid (∀ n, Calls Try.prog 13 #[.slice (some pd) j pc, .int .i64 p] (w6.drewN n) fun e w' => e = .returned (.bool b) ∧ ∃ m, w' = (w6.drewN n).drewN m) := fun b hb => Lib.hid fun n => by
                    have h1 := slices_Contains_int_int.calls ((places.take j).length + 1) (some pd) pc (places.take j) p b (w6.drewN n) (HTK.out _ (pw_below_drewN HW6.out n)) (by omega) (by rw [cont_f _ _ (by omega), hb])
                    rw [hjl] at h1
                    exact h1.mono fun _ _ ⟨he, hd⟩ => ⟨he, hd.out⟩
                  cases hct : (places.take j).any (fun x => p == x) with
                  | true =>
                    have HC1 := HCT true hct
                    have HCC := Lib.hid hct
                    clear HCT hct hjl
                    refine r6e c12 c5 hj hpc h16 hp9 (decide_eq_false g0) z0 (decide_eq_false (by omega)) (decide_eq_false (by omega)) g2 cd rfl hcc pd rfl true HC1 (Lib.hid ?_)
                    intro d28 d29 d30 d31 d32 d33 d34 d35 d36 d37 d38 d39 d40 d41 d42 d43 d44 d45 d46 d47 d48 d49 d50 d51 d52 d53 d54 nq
                    go_wp2
                    go_ret
                    exact ⟨by rw [HNO.out (by unfold mayOk; rw [← HPV.out, HCC.out]; simp)]; first | done | rfl, pw_below_drewN HW6.out nq⟩
                  | false =>
                    have HC1 := HCT false hct
                    have HCC := Lib.hid hct
                    clear HCT hct
                    refine r6e c12 c5 hj hpc h16 hp9 (decide_eq_false g0) z0 (decide_eq_false (by omega)) (decide_eq_false (by omega)) g2 cd rfl hcc pd rfl false HC1 (Lib.hid ?_)
                    intro d28 d29 d30 d31 d32 d33 d34 d35 d36 d37 d38 d39 d40 d41 d42 d43 d44 d45 d46 d47 d48 d49 d50 d51 d52 d53 d54 nq
                    have HW7 := Lib.hid (pw_below_drewN HW6.out nq)
                    have HB7 := Lib.hid (pw_below_drewN HB6.out nq)
                    have HA7 : Hid (MayAt (w6.drewN nq) (b5 + 1) b5 b2 p aA (Classical.choose (at_T33 (Kd.C_below HL.out HW7.out) p z0 g1)) apart l ac lc) := Lib.hid (by
                      have hs := Classical.choose_spec (at_T33 (Kd.C_below HL.out HW7.out) p z0 g1)
                      exact ⟨pw_cell_below HB7.out H8.out, by have := pw_cell_below HB7.out H5.out; rw [hs.1] at this; exact this, by rw [← c12]; exact (pw_cell_below (pw_below_drewN (Below.refl _ w6) nq) c12).trans c12.symm, Kd.C_below HA.out HW7.out, hac, by have := Kd.C_below HL.out HW7.out; rw [hs.1] at this; exact this, z0, g1⟩)
                    have HNB := Lib.hid (mhas_any (w6.drewN nq) HA7.out (not_f apart h6) (places.take j) (some pd) pc (HTK.out _ HW7.out) (by omega) (may_range hj HOK.out))
                    rw [hjl] at HNB
                    clear hjl HA7 c12 c5 hcc
                    generalize w6.drewN nq = w7 at HW7 HB7 HNB ⊢
                    cases hnb : (places.take j).any (fun x => nbP apart (rd_T33 l p).f0 (rd_T33 l x).f0) with
                    | true =>
                      rw [hnb] at HNB
                      have HN2 := Lib.hid hnb
                      clear hnb
                      go_wp2_with (first | ((with_reducible refine HNB.out.mono ?_); rintro e w8 ⟨rfl, hb8⟩))
                      go_ret
                      exact ⟨by rw [HNO.out (by unfold mayOk; rw [← HPV.out, HN2.out]; simp)]; first | done | rfl, HW7.out.trans (hb8.mono HW7.out.size)⟩
                    | false =>
                      rw [hnb] at HNB
                      have HN2 := Lib.hid hnb
                      clear hnb
                      go_wp2_with (first | ((with_reducible refine HNB.out.mono ?_); rintro e w8 ⟨rfl, hb8⟩; have HB8 := Lib.hid hb8; clear hb8))
                      go_roundw
                      case rel => exact ⟨j + 1, by omega, by go_num, Lib.hid (all_range_succ HOK.out (by unfold mayOk; rw [← HPV.out, HCC.out, HN2.out, HCN.out, decide_eq_true z0, decide_eq_true g1, decide_eq_true g2]; rfl)), Lib.hid (HB7.out.trans (HB8.out.mono HB7.out.size))⟩
                      case measure => simp [intOf]; omega
              · refine r6c c12 c5 hj hpc h16 hp9 (decide_eq_false g0) z0 (decide_eq_false (by omega)) (decide_eq_true (by omega)) (Lib.hid ?_)
                intro d28 d29 d30 d31 d32 d33 d34 d35 d36 d37 d38 d39 d40 d41 d42 d43 d44 d45 d46 d47 d48 d49 d50 d51 d52 d53 d54 nq
                go_wp2
                go_ret
                exact ⟨by rw [HNO.out (by unfold mayOk; rw [← HPV.out, decide_eq_false (show ¬ p < (can.length : Int) by omega), Bool.false_and, Bool.and_false, Bool.and_false])]; first | done | rfl, pw_below_drewN HW6.out nq⟩
            · refine r6b c12 c5 hj hpc h16 hp9 (decide_eq_false g0) z0 (decide_eq_true (by omega)) (Lib.hid ?_)
              intro d28 d29 d30 d31 d32 d33 d34 d35 d36 d37 d38 d39 d40 d41 d42 d43 d44 d45 d46 d47 d48 d49 d50 d51 d52 d53 d54 nq
              go_wp2
              go_ret
              exact ⟨by rw [HNO.out (by unfold mayOk; rw [← HPV.out, decide_eq_false (show ¬ p < (l.length : Int) by omega), Bool.false_and, Bool.and_false])]; first | done | rfl, pw_below_drewN HW6.out nq⟩
        · go_wp2
          go_ret
          refine ⟨?_, HW.out.trans (HB.out.mono HW.out.size)⟩
          rw [HRES.out]
          unfold mayP
          rw [HG.out, show places.length = j from by omega, HOK.out]
          rfl
def best_May.f (l0 : List S33) (l1 : List Bool) (a2 : Int) (l3 : List S39) (l4 : List Int) : Option Bool :=
  if l0.length ≤ 16 ∧ l3.length ≤ 1000000 ∧ l4.length ≤ 1000 then some (mayP (nbP l3) l0 l1 a2 l4) else none
theorem best_May.calls (A0 : Option Addr) (c0 : Nat) (l0 : List S33) (A1 : Option Addr) (c1 : Nat) (l1 : List Bool) (a2 : Int) (A3 : Option Addr) (c3 : Nat) (l3 : List S39) (A4 : Option Addr) (c4 : Nat) (l4 : List Int) (r : Bool) (w : World)
    (hr0 : Kd.C k33 w A0 l0.length l0) (hc0 : l0.length ≤ c0) (hr1 : Kd.C Kd.bool w A1 l1.length l1) (hc1 : l1.length ≤ c1) (hr3 : Kd.C k39 w A3 l3.length l3) (hc3 : l3.length ≤ c3) (hr4 : Kd.C (Kd.int .i64) w A4 l4.length l4) (hc4 : l4.length ≤ c4)
    (h : best_May.f l0 l1 a2 l3 l4 = some r) :
    Calls Try.prog 9 #[.slice A0 l0.length c0, .slice A1 l1.length c1, .int .i64 a2, .slice A3 l3.length c3, .slice A4 l4.length c4] w fun e w' => e = .returned (.bool r) ∧ Below w.heap.size w w' := by
  unfold best_May.f at h
  split at h
  · rename_i hh
    cases h
    exact may_any w hr0 hc0 hr1 hc1 hr3 hc3 hr4 hc4 hh.1 hh.2.1 hh.2.2
  · cases h
end Go.Proofs.Ythpibikfecjoiaa.Own
