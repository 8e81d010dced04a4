import Derived.Test.YtinjbpbpgogdhaaRg4
namespace Go.Proofs.Ytinjbpbpgogdhaa.Own
open Go.RowKit Go.Shelf Go.Proofs.YtinjbpbpgogdhaaW.PrintWords Go.Proofs.YtinjbpbpgogdhaaW.PrintLast Go.Proofs.YtinjbpbpgogdhaaW.PrintMore
set_option linter.unusedVariables false
set_option linter.unusedSimpArgs false
/-- What a rule's rows are, of whatever length. -/
structure RB (w : World) (A4 A5 A6 A7 : Option Addr) (c4 c5 c6 c7 : Nat) (l4 l5 l7 : List Int) (l6 : List S58) : Prop where
  h4 : Kd.C (Kd.int .i64) w A4 l4.length l4
  h5 : Kd.C (Kd.int .i64) w A5 l5.length l5
  h6 : Kd.C k58 w A6 l6.length l6
  h7 : Kd.C (Kd.int .i64) w A7 l7.length l7
  k4 : l4.length ≤ c4
  k5 : l5.length ≤ c5
  k6 : l6.length ≤ c6
  k7 : l7.length ≤ c7
theorem RB.below {w W : World} {A4 A5 A6 A7 : Option Addr} {c4 c5 c6 c7 : Nat} {l4 l5 l7 : List Int} {l6 : List S58} (h : RB w A4 A5 A6 A7 c4 c5 c6 c7 l4 l5 l7 l6) (hb : Below w.heap.size w W) : RB W A4 A5 A6 A7 c4 c5 c6 c7 l4 l5 l7 l6 :=
  ⟨Kd.C_below h.h4 hb, Kd.C_below h.h5 hb, Kd.C_below h.h6 hb, Kd.C_below h.h7 hb, h.k4, h.k5, h.k6, h.k7⟩
def greatB (l4 l5 l7 : List Int) (l6 : List S58) : Bool := decide (100 < l4.length) || decide (100 < l5.length) || decide (200 < l6.length) || decide (900 < l7.length)
theorem great_f (a0 a1 a2 a3 a8 : Int) (l4 l5 l7 : List Int) (l6 : List S58) : vespersref09_Great.f a0 a1 a2 a3 l4 l5 l6 l7 a8 = some (greatB l4 l5 l7 l6) := by
  unfold vespersref09_Great.f greatB
  repeat' split
  all_goals congr 1
  all_goals rw [Bool.eq_iff_iff]
  all_goals simp only [Bool.or_eq_true, decide_eq_true_eq, true_iff]
  all_goals omega
theorem RB.rc {w : World} {A4 A5 A6 A7 : Option Addr} {c4 c5 c6 c7 : Nat} {l4 l5 l7 : List Int} {l6 : List S58} (h : RB w A4 A5 A6 A7 c4 c5 c6 c7 l4 l5 l7 l6) (hg : greatB l4 l5 l7 l6 = false) : RC w A4 A5 A6 A7 c4 c5 c6 c7 l4 l5 l7 l6 := by
  unfold greatB at hg
  simp only [Bool.or_eq_false_iff, decide_eq_false_iff_not] at hg
  exact ⟨h.h4, h.h5, h.h6, h.h7, h.k4, h.k5, h.k6, h.k7, by omega, by omega, by omega, by omega⟩
theorem may_z {a0 a1 a2 a3 a8 z : Int} {l4 l5 l7 : List Int} {l6 : List S58} (hm : mayB a0 a1 a2 a3 l4 l5 l6 l7 a8 = true) (hz : 1 ≤ z ∧ z ≤ 999) : mayB a0 z a2 a3 l4 l5 l6 l7 a8 = true := by
  unfold mayB at hm ⊢
  simp only [Bool.and_eq_true, decide_eq_true_eq] at hm ⊢
  obtain ⟨⟨⟨⟨⟨⟨⟨⟨⟨⟨⟨⟨e0, e1⟩, e2⟩, e3⟩, e4⟩, e5⟩, e6⟩, e7⟩, e8⟩, e9⟩, e10⟩, e11⟩, e12⟩ := hm
  exact ⟨⟨⟨⟨⟨⟨⟨⟨⟨⟨⟨⟨e0, e1⟩, hz.1⟩, hz.2⟩, e4⟩, e5⟩, e6⟩, e7⟩, e8⟩, e9⟩, e10⟩, e11⟩, e12⟩
theorem rd_get {L : List Int} {j : Nat} (h : j < L.length) : rd L (j : Int) = L[j] := by
  unfold rd
  simp [h]
theorem asc_rd {L : List Int} (h : Asc L) {p q : Nat} (hp : p < q) (hq : q < L.length) : rd L (p : Int) < rd L (q : Int) := by
  rw [rd_get (by omega), rd_get hq]
  exact List.pairwise_iff_getElem.1 h p q (by omega) hq hp
theorem asc_rd_le {L : List Int} (h : Asc L) {p q : Nat} (hp : p ≤ q) (hq : q < L.length) : rd L (p : Int) ≤ rd L (q : Int) := by
  rcases Nat.lt_or_eq_of_le hp with h1 | h1
  · exact Int.le_of_lt (asc_rd h h1 hq)
  · rw [h1]; exact Int.le_refl _
theorem mem_rd {L : List Int} {x : Int} (h : x ∈ L) : ∃ p, p < L.length ∧ rd L (p : Int) = x := by
  obtain ⟨p, hp, e⟩ := List.mem_iff_getElem.1 h
  exact ⟨p, hp, by rw [rd_get hp, e]⟩
set_option maxHeartbeats 8000000 in
set_option maxRecDepth 100000 in
theorem recurEvery_any {a0 a1 a2 a3 a8 : Int} {A4 A5 A6 A7 : Option Addr} {c4 c5 c6 c7 : Nat} {l4 l5 l7 : List Int} {l6 : List S58} (start k : Int) (w : World) (hR : RB w A4 A5 A6 A7 c4 c5 c6 c7 l4 l5 l7 l6) (hk0 : 0 ≤ k) (hk1 : k ≤ 255) :
    Calls Try.prog 3 #[.agg #[.int .i64 a0, .int .i64 a1, .int .i64 a2, .int .i64 a3, .slice A4 l4.length c4, .slice A5 l5.length c5, .slice A6 l6.length c6, .slice A7 l7.length c7, .int .i64 a8], .int .i64 start, .int .u8 k] w fun e w' => e = .returned (.bool true) ∧ Below w.heap.size w w' := by
  have HR := Lib.hid hR
  clear hR
  go_enter Try.func3, Try.ntmps3
  go_upto_region 1 with (fail)
  have H1 : Hid ((w.alloc (.cells #[.int .i64 a0, .int .i64 a1, .int .i64 a2, .int .i64 a3, .slice A4 l4.length c4, .slice A5 l5.length c5, .slice A6 l6.length c6, .slice A7 l7.length c7, .int .i64 a8] 25)).heap[w.heap.size]? = some (.cells #[.int .i64 a0, .int .i64 a1, .int .i64 a2, .int .i64 a3, .slice A4 l4.length c4, .slice A5 l5.length c5, .slice A6 l6.length c6, .slice A7 l7.length c7, .int .i64 a8] 25 (0, 0))) := Lib.hid (alloc_blk _ _ _)
  have HB1 : Hid (Below w.heap.size w (w.alloc (.cells #[.int .i64 a0, .int .i64 a1, .int .i64 a2, .int .i64 a3, .slice A4 l4.length c4, .slice A5 l5.length c5, .slice A6 l6.length c6, .slice A7 l7.length c7, .int .i64 a8] 25))) := Lib.hid below_new_
  obtain ⟨g1, hg1⟩ : ∃ x, x = w.heap.size := ⟨_, rfl⟩
  have HG1 := Lib.hid hg1
  rw [← hg1] at H1 ⊢
  clear hg1
  generalize w.alloc (.cells #[.int .i64 a0, .int .i64 a1, .int .i64 a2, .int .i64 a3, .slice A4 l4.length c4, .slice A5 l5.length c5, .slice A6 l6.length c6, .slice A7 l7.length c7, .int .i64 a8] 25) = w1 at H1 HB1 ⊢
  have HGC : Hid (Calls Try.prog 5 #[.agg #[.int .i64 a0, .int .i64 a1, .int .i64 a2, .int .i64 a3, .slice A4 l4.length c4, .slice A5 l5.length c5, .slice A6 l6.length c6, .slice A7 l7.length c7, .int .i64 a8]] w1 fun e w' => e = .returned (.bool (greatB l4 l5 l7 l6)) ∧ Below w1.heap.size w1 w') := Lib.hid (by
    have h := HR.out.below HB1.out
    exact vespersref09_Great.calls a0 a1 a2 a3 A4 c4 l4 A5 c5 l5 A6 c6 l6 A7 c7 l7 a8 _ w1 h.h4 h.k4 h.h5 h.k5 h.h6 h.k6 h.h7 h.k7 (great_f a0 a1 a2 a3 a8 l4 l5 l7 l6))
  have HFX : Hid (∀ W, Below w.heap.size w W → Calls Try.prog 6 #[] W fun e w' => e = .returned (.bool true) ∧ Below w.heap.size w w') := Lib.hid (fun W hW => (fixed_any W).mono (fun e w' h => ⟨h.1, hW.trans (h.2.mono hW.size)⟩))
  have q0 := cell_eq (blk_cell H1.out 0) rfl
  have q1 := cell_eq (blk_cell H1.out 1) rfl
  have q2 := cell_eq (blk_cell H1.out 2) rfl
  have q3 := cell_eq (blk_cell H1.out 3) rfl
  have q4 := cell_eq (blk_cell H1.out 4) rfl
  have q5 := cell_eq (blk_cell H1.out 5) rfl
  have q6 := cell_eq (blk_cell H1.out 6) rfl
  have q7 := cell_eq (blk_cell H1.out 7) rfl
  have q8 := cell_eq (blk_cell H1.out 8) rfl
  cases hg : greatB l4 l5 l7 l6 with
  | true =>
    rw [hg] at HGC
    clear hg hk0 hk1
    go_wp2_with (first | ((with_reducible refine HGC.out.mono ?_); rintro e w2 ⟨rfl, hb2⟩; have HB2 := Lib.hid (HB1.out.trans (hb2.mono HB1.out.size)); clear hb2) | ((with_reducible refine (HFX.out _ HB2.out).mono ?_); rintro e w3 ⟨rfl, hb3⟩; have HB3 := Lib.hid hb3; clear hb3))
    go_ret
    exact ⟨rfl, HB3.out⟩
  | false =>
    have HRC := Lib.hid (HR.out.rc hg)
    rw [hg] at HGC
    clear hg
    by_cases e1 : start < 0
    · clear hk0 hk1
      go_wp2_with (first | ((with_reducible refine HGC.out.mono ?_); rintro e w2 ⟨rfl, hb2⟩; have HB2 := Lib.hid (HB1.out.trans (hb2.mono HB1.out.size)); clear hb2) | ((with_reducible refine (HFX.out _ HB2.out).mono ?_); rintro e w3 ⟨rfl, hb3⟩; have HB3 := Lib.hid hb3; clear hb3))
      go_ret
      exact ⟨rfl, HB3.out⟩
    · by_cases e2 : 157734720 ≤ start
      · clear hk0 hk1
        go_wp2_with (first | ((with_reducible refine HGC.out.mono ?_); rintro e w2 ⟨rfl, hb2⟩; have HB2 := Lib.hid (HB1.out.trans (hb2.mono HB1.out.size)); clear hb2) | ((with_reducible refine (HFX.out _ HB2.out).mono ?_); rintro e w3 ⟨rfl, hb3⟩; have HB3 := Lib.hid hb3; clear hb3))
        go_ret
        exact ⟨rfl, HB3.out⟩
      · go_upto_region 3 with (first | ((with_reducible refine HGC.out.mono ?_); rintro e w2 ⟨rfl, hb2⟩; have H2 := Lib.hid (keep_below hb2 H1.out); have HB2 := Lib.hid (HB1.out.trans (hb2.mono HB1.out.size)); clear hb2))
        clear q0 q1 q2 q3 q4 q5 q6 q7 q8
        have q2 := cell_eq (blk_cell H2.out 2) rfl
        have f2 := blk_frozen H2.out 2
        go_upto_region 4 with (fail)
        have H3 : Hid ((w2.setCell ⟨g1, 2, none⟩ (.int .i64 0)).heap[g1]? = some (.cells #[.int .i64 a0, .int .i64 a1, .int .i64 0, .int .i64 a3, .slice A4 l4.length c4, .slice A5 l5.length c5, .slice A6 l6.length c6, .slice A7 l7.length c7, .int .i64 a8] 25 (0, 0))) := Lib.hid (blk_set H2.out 2 _)
        have HB3 : Hid (Below w.heap.size w (w2.setCell ⟨g1, 2, none⟩ (.int .i64 0))) := Lib.hid (below_set HB2.out (by have := HG1.out; omega))
        generalize w2.setCell ⟨g1, 2, none⟩ (.int .i64 0) = w3 at H3 HB3 ⊢
        clear q2 f2
        have q3 := cell_eq (blk_cell H3.out 3) rfl
        have f3 := blk_frozen H3.out 3
        go_upto_region 5 with (fail)
        have H4 : Hid ((w3.setCell ⟨g1, 3, none⟩ (.int .i64 (-1))).heap[g1]? = some (.cells #[.int .i64 a0, .int .i64 a1, .int .i64 0, .int .i64 (-1), .slice A4 l4.length c4, .slice A5 l5.length c5, .slice A6 l6.length c6, .slice A7 l7.length c7, .int .i64 a8] 25 (0, 0))) := Lib.hid (blk_set H3.out 3 _)
        have HB4 : Hid (Below w.heap.size w (w3.setCell ⟨g1, 3, none⟩ (.int .i64 (-1)))) := Lib.hid (below_set HB3.out (by have := HG1.out; omega))
        generalize w3.setCell ⟨g1, 3, none⟩ (.int .i64 (-1)) = w4 at H4 HB4 ⊢
        clear q3 f3
        have q0 := cell_eq (blk_cell H4.out 0) rfl
        have q1 := cell_eq (blk_cell H4.out 1) rfl
        have q2 := cell_eq (blk_cell H4.out 2) rfl
        have q3 := cell_eq (blk_cell H4.out 3) rfl
        have q4 := cell_eq (blk_cell H4.out 4) rfl
        have q5 := cell_eq (blk_cell H4.out 5) rfl
        have q6 := cell_eq (blk_cell H4.out 6) rfl
        have q7 := cell_eq (blk_cell H4.out 7) rfl
        have q8 := cell_eq (blk_cell H4.out 8) rfl
        go_upto_region 6 with (fail)
        clear q0 q1 q2 q3 q4 q5 q6 q7 q8
        have H5 : Hid ((w4.alloc (.cells #[.int .i64 a0, .int .i64 a1, .int .i64 0, .int .i64 (-1), .slice A4 l4.length c4, .slice A5 l5.length c5, .slice A6 l6.length c6, .slice A7 l7.length c7, .int .i64 a8] 25)).heap[g1]? = some (.cells #[.int .i64 a0, .int .i64 a1, .int .i64 0, .int .i64 (-1), .slice A4 l4.length c4, .slice A5 l5.length c5, .slice A6 l6.length c6, .slice A7 l7.length c7, .int .i64 a8] 25 (0, 0))) := Lib.hid (_root_.Go.Proofs.Ytinjbpbpgogdhaa.Own.keep_alloc H4.out _)
        have N5 : Hid ((w4.alloc (.cells #[.int .i64 a0, .int .i64 a1, .int .i64 0, .int .i64 (-1), .slice A4 l4.length c4, .slice A5 l5.length c5, .slice A6 l6.length c6, .slice A7 l7.length c7, .int .i64 a8] 25)).heap[w4.heap.size]? = some (.cells #[.int .i64 a0, .int .i64 a1, .int .i64 0, .int .i64 (-1), .slice A4 l4.length c4, .slice A5 l5.length c5, .slice A6 l6.length c6, .slice A7 l7.length c7, .int .i64 a8] 25 (0, 0))) := Lib.hid (alloc_blk _ _ _)
        have HB5 : Hid (Below w.heap.size w (w4.alloc (.cells #[.int .i64 a0, .int .i64 a1, .int .i64 0, .int .i64 (-1), .slice A4 l4.length c4, .slice A5 l5.length c5, .slice A6 l6.length c6, .slice A7 l7.length c7, .int .i64 a8] 25))) := Lib.hid (HB4.out.alloc HB4.out.size _)
        have HNE : Hid (g1 < w4.heap.size) := Lib.hid (heap_lt H4.out)
        have HNB : Hid (w.heap.size ≤ w4.heap.size) := Lib.hid HB4.out.size
        obtain ⟨g2, hg2⟩ : ∃ x, x = w4.heap.size := ⟨_, rfl⟩
        rw [← hg2] at N5 HNE HNB ⊢
        clear hg2
        generalize w4.alloc (.cells #[.int .i64 a0, .int .i64 a1, .int .i64 0, .int .i64 (-1), .slice A4 l4.length c4, .slice A5 l5.length c5, .slice A6 l6.length c6, .slice A7 l7.length c7, .int .i64 a8] 25) = w5 at H5 N5 HB5 ⊢
        have q1 := cell_eq (blk_cell H5.out 1) rfl
        have n1 := cell_eq (blk_cell N5.out 1) rfl
        have f1 := blk_frozen N5.out 1
        obtain ⟨m, hm⟩ : ∃ m, m = 1 + k % 5 := ⟨_, rfl⟩
        have hmb : 1 ≤ m ∧ m ≤ 5 := by omega
        have x1 : wrap64 k = k := IntWalk.wrap64_in _ (by omega)
        have x2 : Int.tmod k 5 = k % 5 := Int.tmod_eq_emod_of_nonneg hk0
        have x3 : wrap64 (k % 5) = k % 5 := by clear x1 x2; exact IntWalk.wrap64_in _ (by omega)
        have HM := Lib.hid hm
        clear hm
        go_upto_region 7 with (fail)
        rw [← HM.out]
        obtain ⟨z, hz⟩ : ∃ z, z = wrap64 (a1 * m) := ⟨_, rfl⟩
        rw [← hz]
        have HZ := Lib.hid hz
        clear hz
        have hne : g1 ≠ g2 := by have := HNE.out; omega
        have H6 : Hid ((w5.setCell ⟨g2, 1, none⟩ (.int .i64 z)).heap[g1]? = some (.cells #[.int .i64 a0, .int .i64 a1, .int .i64 0, .int .i64 (-1), .slice A4 l4.length c4, .slice A5 l5.length c5, .slice A6 l6.length c6, .slice A7 l7.length c7, .int .i64 a8] 25 (0, 0))) := Lib.hid (blk_far H5.out (p := ⟨g2, 1, none⟩) hne _)
        have N6 : Hid ((w5.setCell ⟨g2, 1, none⟩ (.int .i64 z)).heap[g2]? = some (.cells #[.int .i64 a0, .int .i64 z, .int .i64 0, .int .i64 (-1), .slice A4 l4.length c4, .slice A5 l5.length c5, .slice A6 l6.length c6, .slice A7 l7.length c7, .int .i64 a8] 25 (0, 0))) := Lib.hid (blk_set N5.out 1 _)
        have HB6 : Hid (Below w.heap.size w (w5.setCell ⟨g2, 1, none⟩ (.int .i64 z))) := Lib.hid (below_set HB5.out HNB.out)
        generalize w5.setCell ⟨g2, 1, none⟩ (.int .i64 z) = w6 at H6 N6 HB6 ⊢
        clear q1 n1 f1 x1 x2 x3 hne hk0 hk1
        have q0 := cell_eq (blk_cell H6.out 0) rfl
        have q1 := cell_eq (blk_cell H6.out 1) rfl
        have q2 := cell_eq (blk_cell H6.out 2) rfl
        have q3 := cell_eq (blk_cell H6.out 3) rfl
        have q4 := cell_eq (blk_cell H6.out 4) rfl
        have q5 := cell_eq (blk_cell H6.out 5) rfl
        have q6 := cell_eq (blk_cell H6.out 6) rfl
        have q7 := cell_eq (blk_cell H6.out 7) rfl
        have q8 := cell_eq (blk_cell H6.out 8) rfl
        have HMC : Hid (Calls Try.prog 7 #[.agg #[.int .i64 a0, .int .i64 a1, .int .i64 0, .int .i64 (-1), .slice A4 l4.length c4, .slice A5 l5.length c5, .slice A6 l6.length c6, .slice A7 l7.length c7, .int .i64 a8]] w6 fun e w' => e = .returned (.bool (mayB a0 a1 0 (-1) l4 l5 l6 l7 a8)) ∧ Below w6.heap.size w6 w') := Lib.hid (by
          have h := HRC.out.below HB6.out
          exact vespersref09_May.calls 3100 a0 a1 0 (-1) A4 c4 l4 A5 c5 l5 A6 c6 l6 A7 c7 l7 a8 _ w6 h.h4 h.k4 h.h5 h.k5 h.h6 h.k6 h.h7 h.k7 (ref_May_told h.n4 h.n5 h.n6 h.n7 3100 (by decide)))
        by_cases e3 : a1 < 1
        · go_wp2_with (first | ((with_reducible refine (HMC.out).mono ?_); rintro e w7 ⟨rfl, hb7⟩; have HB7 := Lib.hid (HB6.out.trans (hb7.mono HB6.out.size)); have H7 := Lib.hid (keep_below hb7 H6.out); have N7 := Lib.hid (keep_below hb7 N6.out); clear hb7) | ((with_reducible refine (HFX.out _ HB6.out).mono ?_); rintro e w3 ⟨rfl, hb3⟩; have HB3 := Lib.hid hb3; clear hb3) | ((with_reducible refine (HFX.out _ HB7.out).mono ?_); rintro e w3 ⟨rfl, hb3⟩; have HB3 := Lib.hid hb3; clear hb3))
          go_ret
          exact ⟨rfl, HB3.out⟩
        · by_cases e4 : 199 < a1
          · go_wp2_with (first | ((with_reducible refine (HMC.out).mono ?_); rintro e w7 ⟨rfl, hb7⟩; have HB7 := Lib.hid (HB6.out.trans (hb7.mono HB6.out.size)); have H7 := Lib.hid (keep_below hb7 H6.out); have N7 := Lib.hid (keep_below hb7 N6.out); clear hb7) | ((with_reducible refine (HFX.out _ HB6.out).mono ?_); rintro e w3 ⟨rfl, hb3⟩; have HB3 := Lib.hid hb3; clear hb3) | ((with_reducible refine (HFX.out _ HB7.out).mono ?_); rintro e w3 ⟨rfl, hb3⟩; have HB3 := Lib.hid hb3; clear hb3))
            go_ret
            exact ⟨rfl, HB3.out⟩
          · cases hmay : mayB a0 a1 0 (-1) l4 l5 l6 l7 a8 with
            | false =>
              rw [hmay] at HMC
              clear hmay
              go_wp2_with (first | ((with_reducible refine (HMC.out).mono ?_); rintro e w7 ⟨rfl, hb7⟩; have HB7 := Lib.hid (HB6.out.trans (hb7.mono HB6.out.size)); have H7 := Lib.hid (keep_below hb7 H6.out); have N7 := Lib.hid (keep_below hb7 N6.out); clear hb7) | ((with_reducible refine (HFX.out _ HB6.out).mono ?_); rintro e w3 ⟨rfl, hb3⟩; have HB3 := Lib.hid hb3; clear hb3) | ((with_reducible refine (HFX.out _ HB7.out).mono ?_); rintro e w3 ⟨rfl, hb3⟩; have HB3 := Lib.hid hb3; clear hb3))
              go_ret
              exact ⟨rfl, HB3.out⟩
            | true =>
              rw [hmay] at HMC
              have HMAY := Lib.hid hmay
              clear hmay
              go_upto_region 9 with (first | ((with_reducible refine (HMC.out).mono ?_); rintro e w7 ⟨rfl, hb7⟩; have HB7 := Lib.hid (HB6.out.trans (hb7.mono HB6.out.size)); have H7 := Lib.hid (keep_below hb7 H6.out); have N7 := Lib.hid (keep_below hb7 N6.out); clear hb7) | ((with_reducible refine (HFX.out _ HB6.out).mono ?_); rintro e w3 ⟨rfl, hb3⟩; have HB3 := Lib.hid hb3; clear hb3) | ((with_reducible refine (HFX.out _ HB7.out).mono ?_); rintro e w3 ⟨rfl, hb3⟩; have HB3 := Lib.hid hb3; clear hb3))
              clear q0 q1 q2 q3 q4 q5 q6 q7 q8
              have hmb' := may_bd HMAY.out
              have hzm : z = a1 * m := by
                rw [HZ.out]
                have h1 : 0 ≤ a1 * m := Int.mul_nonneg (by omega) (by omega)
                have h2 : a1 * m ≤ 199 * 5 := Int.mul_le_mul (by omega) hmb.2 (by omega) (by omega)
                exact IntWalk.wrap64_in _ (by omega)
              have hz2 : 1 ≤ z ∧ z ≤ 999 := by
                rw [hzm]
                have h1 : 1 * 1 ≤ a1 * m := Int.mul_le_mul (by omega) hmb.1 (by omega) (by omega)
                have h2 : a1 * m ≤ 199 * 5 := Int.mul_le_mul (by omega) hmb.2 (by omega) (by omega)
                omega
              have HMZ := Lib.hid (may_z HMAY.out hz2)
              obtain ⟨Y, M, D, hd, hok, hnum⟩ := civil_Date_ok (k := 3000) (by decide) (n := start / 1440) (by omega) (by omega)
              obtain ⟨A, B, hA, hB, hAa, hAb, hsub, hla, hlb⟩ := every_plain (a0 := a0) (a1 := a1) (a8 := a8) (m := m) (l4 := l4) (l7 := l7) (P := dayB a0 l4 l5 l6 (start / 1440) M D) (day := start / 1440) (sy := Y) (sm := M) (mi := start % 1440) (start := start) (by omega) hmb.1 (by omega) (by omega) hok.1 hok.2.2.1 hok.2.2.2.1 (by omega) (by omega) (by omega)
              rw [← hzm] at hB
              have HBT : ∀ (aa : Int) (L : List Int), mayB a0 aa 0 (-1) l4 l5 l6 l7 a8 = true → bet start (start + 576000) 1000 [] (timesL a0 aa 0 (-1) a8 l4 l7 (dayB a0 l4 l5 l6 (start / 1440) M D) (start / 1440) Y M (start % 1440) 0) = (L, true) → ∀ W, Below w.heap.size w W → Calls Try.prog 8 #[.agg #[.int .i64 a0, .int .i64 aa, .int .i64 0, .int .i64 (-1), .slice A4 l4.length c4, .slice A5 l5.length c5, .slice A6 l6.length c6, .slice A7 l7.length c7, .int .i64 a8], .int .i64 start, .int .i64 start, .int .i64 (start + 576000), .int .i64 1000] W (BetPost W (L, true)) := by
                intro aa L hmy hL W hW
                have hB := between_any (Y := Y) (M := M) (D := D) 0 _ start start (start + 576000) 1000 W (HRC.out.below hW) hmy (by omega) (by omega) hd ⟨hok.1, hok.2.1, hok.2.2.1, hok.2.2.2.1⟩ (by omega) (fun g' W' hW' => (first_zero start hW' (by omega) (by omega) (by omega) (by omega) (.inr (by omega))).mono (fun e w' h => ⟨h.1, by rw [h.2]; exact Below.refl _ _⟩)) rfl (by omega) (by omega) (by omega) (by omega)
                rw [hL] at hB
                exact hB
              have HBA := Lib.hid (HBT a1 A HMAY.out hA)
              have HBB := Lib.hid (HBT z B HMZ.out hB)
              have HAA := Lib.hid hAa
              have HAB := Lib.hid hAb
              have HSU := Lib.hid hsub
              clear HBT hA hB hAa hAb hsub hzm hd hok hnum hmb' hmb hz2
              have x5 : wrap64 (start + 576000) = start + 576000 := IntWalk.wrap64_in _ (by omega)
              have q0 := cell_eq (blk_cell H7.out 0) rfl
              have q1 := cell_eq (blk_cell H7.out 1) rfl
              have q2 := cell_eq (blk_cell H7.out 2) rfl
              have q3 := cell_eq (blk_cell H7.out 3) rfl
              have q4 := cell_eq (blk_cell H7.out 4) rfl
              have q5 := cell_eq (blk_cell H7.out 5) rfl
              have q6 := cell_eq (blk_cell H7.out 6) rfl
              have q7 := cell_eq (blk_cell H7.out 7) rfl
              have q8 := cell_eq (blk_cell H7.out 8) rfl
              go_upto_region 10 with (first | ((with_reducible refine (HBA.out _ HB7.out).mono ?_); rintro e w8 ⟨va, rfl, hown, hb8⟩; have HOA := Lib.hid hown; have HB8 := Lib.hid hb8; clear hown hb8))
              clear q0 q1 q2 q3 q4 q5 q6 q7 q8
              have HB08 := Lib.hid (HB7.out.trans (HB8.out.mono HB7.out.size))
              have N8 := Lib.hid (keep_below HB8.out N7.out)
              have q0 := cell_eq (blk_cell N8.out 0) rfl
              have q1 := cell_eq (blk_cell N8.out 1) rfl
              have q2 := cell_eq (blk_cell N8.out 2) rfl
              have q3 := cell_eq (blk_cell N8.out 3) rfl
              have q4 := cell_eq (blk_cell N8.out 4) rfl
              have q5 := cell_eq (blk_cell N8.out 5) rfl
              have q6 := cell_eq (blk_cell N8.out 6) rfl
              have q7 := cell_eq (blk_cell N8.out 7) rfl
              have q8 := cell_eq (blk_cell N8.out 8) rfl
              go_upto_region 11 with (first | ((with_reducible refine (HBB.out _ HB08.out).mono ?_); rintro e w9 ⟨vb, rfl, hown, hb9⟩; have HOB := Lib.hid hown; have HB9 := Lib.hid hb9; clear hown hb9))
              clear q0 q1 q2 q3 q4 q5 q6 q7 q8 x5 e1 e2 e3 e4
              have HB09 := Lib.hid (HB08.out.trans (HB9.out.mono HB08.out.size))
              obtain ⟨Aa, ca, rfl⟩ := owns_slice HOA.out
              obtain ⟨Ab, cb, rfl⟩ := owns_slice HOB.out
              have HCA : Hid ((Kd.int .i64).C w9 Aa A.length A) := Lib.hid (Kd.C_below (owns_C HOA.out (by show A.length ≤ _; omega)) HB9.out)
              have HCB : Hid ((Kd.int .i64).C w9 Ab B.length B) := Lib.hid (owns_C HOB.out (by show B.length ≤ _; omega))
              clear HOA HOB
              go_wp2
              go_loopw [77, 12] (fun j' i' wr => ∃ (j i : Nat), j ≤ B.length ∧ i ≤ A.length ∧ j' = .int .i64 (j : Int) ∧ i' = .int .i64 (i : Int) ∧ wr = w9 ∧ Hid (∀ q, j ≤ q → q < B.length → ∃ p, i ≤ p ∧ p < A.length ∧ rd A (p : Int) = rd B (q : Int))) (fun j' _ _ => B.length - (intOf j').toNat)
              case atStart => exact ⟨0, 0, Nat.zero_le _, Nat.zero_le _, rfl, rfl, rfl, Lib.hid (fun q _ hq => by
                obtain ⟨p, hp, e⟩ := mem_rd (HSU.out _ (rd_mem hq))
                exact ⟨p, Nat.zero_le _, hp, e⟩)⟩
              case round =>
              obtain ⟨j, i, hj, hi, rfl, rfl, rfl, HQ⟩ := hrel
              by_cases hlt : j < B.length
              · obtain ⟨x, hx⟩ : ∃ x, x = rd B (j : Int) := ⟨_, rfl⟩
                obtain ⟨p0, hip, hpl, hpe⟩ := HQ.out j (Nat.le_refl _) hlt
                rw [← hx] at hpe
                obtain ⟨ad, rfl, hc1⟩ := Kd.at_int HCB.out (j : Int) (by omega) (by omega)
                rw [Int.toNat_natCast, ← hx] at hc1
                have HXX := Lib.hid hx
                have HPE := Lib.hid hpe
                clear hx hpe
                have hj1 : j + 1 ≤ B.length := hlt
                obtain ⟨ada, rfl, hx0⟩ := Kd.at_int HCA.out (p0 : Int) (by omega) (by omega)
                clear hx0
                have w4 : wrap64 ((j : Int) + 1) = (j : Int) + 1 := IntWalk.wrap64_in _ (by omega)
                go_wp2
                go_loopw [12] (fun i' wr2 => ∃ iv : Int, 0 ≤ iv ∧ iv ≤ (p0 : Int) ∧ i' = .int .i64 iv ∧ wr2 = wr) (fun i' _ => A.length - (intOf i').toNat)
                case atStart => exact ⟨i, by clear w4; omega, by clear w4; omega, rfl, rfl⟩
                case round =>
                obtain ⟨iv, hi1, hi2, rfl, rfl⟩ := hrel
                obtain ⟨y, hy⟩ : ∃ y, y = rd A iv := ⟨_, rfl⟩
                obtain ⟨ad2, e2, hc2⟩ := Kd.at_int HCA.out iv hi1 (by clear w4; omega)
                obtain rfl : ada = ad2 := Option.some.inj e2
                rw [← hy] at hc2
                have HYY := Lib.hid hy
                clear hy e2
                have hla2 : iv < (A.length : Int) := by clear w4; omega
                have hivn : ((iv.toNat : Nat) : Int) = iv := Int.toNat_of_nonneg hi1
                have HIV := Lib.hid hivn
                clear hivn
                have hle : y ≤ x := by
                  have h := asc_rd_le HAA.out (p := iv.toNat) (q := p0) (by have := HIV.out; clear w4; omega) hpl
                  rw [HIV.out, HPE.out, ← HYY.out] at h
                  exact h
                by_cases hyx : y < x
                · have hlt2 : iv + 1 ≤ (p0 : Int) := by
                    have : iv ≠ (p0 : Int) := fun h => by
                      have h1 := HYY.out
                      rw [h, HPE.out] at h1
                      clear w4
                      omega
                    clear w4
                    omega
                  have w5 : wrap64 (iv + 1) = iv + 1 := by clear w4; exact IntWalk.wrap64_in _ (by omega)
                  go_wp2
                  refine ⟨⟨iv + 1, by clear w4 w5; omega, hlt2, by rfl, trivial⟩, ?_⟩
                  clear w4 w5
                  simp only [intOf]
                  omega
                · have hyx2 : y = x := by clear w4; omega
                  have HQ2 : Hid (∀ q, j + 1 ≤ q → q < B.length → ∃ p, iv.toNat ≤ p ∧ p < A.length ∧ rd A (p : Int) = rd B (q : Int)) := Lib.hid (fun q hq1 hq2 => by
                    obtain ⟨p, hp1, hp2, hp3⟩ := HQ.out q (by omega) hq2
                    refine ⟨p, ?_, hp2, hp3⟩
                    have h1 := asc_rd HAB.out (p := j) (q := q) (by omega) hq2
                    rw [← HXX.out, ← hp3, ← hyx2, HYY.out] at h1
                    rcases Nat.lt_or_ge p iv.toNat with h2 | h2
                    · have h3 := asc_rd_le HAA.out (p := p) (q := iv.toNat) (by omega) (by have := HIV.out; clear w4; omega)
                      rw [HIV.out] at h3
                      clear w4
                      omega
                    · exact h2)
                  go_wp2
                  refine ⟨⟨j + 1, iv.toNat, hj1, by have := HIV.out; clear w4; omega, rfl, by rw [HIV.out], trivial, HQ2⟩, ?_⟩
                  clear w4
                  simp only [intOf]
                  omega
              · obtain rfl : j = B.length := by omega
                go_wp2_with (first | ((with_reducible refine (HFX.out _ HB09.out).mono ?_); rintro e w3 ⟨rfl, hb3⟩; have HB3 := Lib.hid hb3; clear hb3))
                go_ret
                exact ⟨rfl, HB3.out⟩
end Go.Proofs.Ytinjbpbpgogdhaa.Own
