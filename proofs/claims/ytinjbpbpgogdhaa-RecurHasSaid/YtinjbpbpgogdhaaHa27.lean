-- own text: texts of this session merged by a program of it (merge.py), declarations that nothing reaches left out (prune.py)
import Derived.Test.YtinjbpbpgogdhaaHa13
section
namespace Go.Proofs.Ytinjbpbpgogdhaa.Own
open Go.RowKit Go.Proofs.YtinjbpbpgogdhaaW.PrintWords Go.Proofs.YtinjbpbpgogdhaaW.PrintLast Go.Proofs.YtinjbpbpgogdhaaW.PrintMore
set_option linter.unusedVariables false
set_option linter.unusedSimpArgs false
theorem cells9 {W : World} {g : Nat} {a0 a1 a2 a3 a8 : Int} {A4 A5 A6 A7 : Option Addr} {c4 c5 c6 c7 n4 n5 n6 n7 : Nat} {t : TypeId} (h : W.heap[g]? = some (.cells #[.int .i64 a0, .int .i64 a1, .int .i64 a2, .int .i64 a3, .slice A4 n4 c4, .slice A5 n5 c5, .slice A6 n6 c6, .slice A7 n7 c7, .int .i64 a8] t (0, 0))) :
    W.cell? ⟨g, 0, none⟩ = some (.int .i64 a0) ∧ W.cell? ⟨g, 1, none⟩ = some (.int .i64 a1) ∧ W.cell? ⟨g, 2, none⟩ = some (.int .i64 a2) ∧ W.cell? ⟨g, 3, none⟩ = some (.int .i64 a3) ∧ W.cell? ⟨g, 4, none⟩ = some (.slice A4 n4 c4) ∧ W.cell? ⟨g, 5, none⟩ = some (.slice A5 n5 c5) ∧ W.cell? ⟨g, 6, none⟩ = some (.slice A6 n6 c6) ∧ W.cell? ⟨g, 7, none⟩ = some (.slice A7 n7 c7) ∧ W.cell? ⟨g, 8, none⟩ = some (.int .i64 a8) :=
  ⟨cell_eq (blk_cell h 0) rfl, cell_eq (blk_cell h 1) rfl, cell_eq (blk_cell h 2) rfl, cell_eq (blk_cell h 3) rfl, cell_eq (blk_cell h 4) rfl, cell_eq (blk_cell h 5) rfl, cell_eq (blk_cell h 6) rfl, cell_eq (blk_cell h 7) rfl, cell_eq (blk_cell h 8) rfl⟩
set_option maxHeartbeats 16000000 in
set_option maxRecDepth 100000 in
theorem rmn_a {a0 a1 a2 a3 a8 : Int} {A4 A5 A6 A7 : Option Addr} {c4 c5 c6 c7 : Nat} {l4 l5 l7 : List Int} {l6 : List S58} (w : World) (hR : RC w A4 A5 A6 A7 c4 c5 c6 c7 l4 l5 l7 l6)  (hn : ¬ (1 ≤ a0 ∧ a0 ≤ 4 ∧ 1 ≤ a1 ∧ a1 ≤ 999 ∧ endsB a2 a3 = true)) :
    Calls Try.prog 26 #[.agg #[.int .i64 a0, .int .i64 a1, .int .i64 a2, .int .i64 a3, .slice A4 l4.length c4, .slice A5 l5.length c5, .slice A6 l6.length c6, .slice A7 l7.length c7, .int .i64 a8]] w fun e w' => e = .returned (.bool false) ∧ Below w.heap.size w w' := by
  have HN := Lib.hid hn
  clear hn
  have HR := Lib.hid hR
  have hn4 := hR.n4
  have hn5 := hR.n5
  have hn6 := hR.n6
  clear hR
  go_enter Try.func26, Try.ntmps26
  go_upto_region 1 with (fail)
  have H1 : Hid ((w.alloc (.cells #[.int .i64 a0, .int .i64 a1, .int .i64 a2, .int .i64 a3, .slice A4 l4.length c4, .slice A5 l5.length c5, .slice A6 l6.length c6, .slice A7 l7.length c7, .int .i64 a8] 25)).heap[w.heap.size]? = some (.cells #[.int .i64 a0, .int .i64 a1, .int .i64 a2, .int .i64 a3, .slice A4 l4.length c4, .slice A5 l5.length c5, .slice A6 l6.length c6, .slice A7 l7.length c7, .int .i64 a8] 25 (0, 0))) := Lib.hid (alloc_blk _ _ _)
  have HB1 : Hid (Below w.heap.size w (w.alloc (.cells #[.int .i64 a0, .int .i64 a1, .int .i64 a2, .int .i64 a3, .slice A4 l4.length c4, .slice A5 l5.length c5, .slice A6 l6.length c6, .slice A7 l7.length c7, .int .i64 a8] 25))) := Lib.hid below_new_
  obtain ⟨g1, hg1⟩ : ∃ x, x = w.heap.size := ⟨_, rfl⟩
  rw [← hg1] at H1 ⊢
  clear hg1
  generalize w.alloc (.cells #[.int .i64 a0, .int .i64 a1, .int .i64 a2, .int .i64 a3, .slice A4 l4.length c4, .slice A5 l5.length c5, .slice A6 l6.length c6, .slice A7 l7.length c7, .int .i64 a8] 25) = w1 at H1 HB1 ⊢
  have HR1 := Lib.hid (HR.out.below HB1.out)
  have HQ1 : Hid (Below w1.heap.size w1 w1) := Lib.hid (Below.refl _ _)
  have HEN : Hid (∀ W, Below w1.heap.size w1 W → Calls Try.prog 33 #[.agg #[.int .i64 a0, .int .i64 a1, .int .i64 a2, .int .i64 a3, .slice A4 l4.length c4, .slice A5 l5.length c5, .slice A6 l6.length c6, .slice A7 l7.length c7, .int .i64 a8]] W fun e w' => e = .returned (.bool (endsB a2 a3)) ∧ Below W.heap.size W w') := Lib.hid (fun W hW => by
    have h := HR1.out.below hW
    exact rule_ends.calls a0 a1 a2 a3 A4 c4 l4 A5 c5 l5 A6 c6 l6 A7 c7 l7 a8 _ W h.h4 h.k4 h.h5 h.k5 h.h6 h.k6 h.h7 h.k7 (ends_f a0 a1 a2 a3 a8 l4 l5 l7 l6))
  have HR4 : Hid (∀ W, Below w1.heap.size w1 W → Calls Try.prog 34 #[.slice A4 l4.length c4, .int .i64 12, .bool false] W fun e w' => e = .returned (.bool (rowB l4 12 false)) ∧ Below W.heap.size W w') := Lib.hid (fun W hW => row_any W l4 A4 c4 12 false (HR1.out.below hW).h4 (by omega) (by decide) (by decide))
  have HR5 : Hid (∀ W, Below w1.heap.size w1 W → Calls Try.prog 34 #[.slice A5 l5.length c5, .int .i64 31, .bool true] W fun e w' => e = .returned (.bool (rowB l5 31 true)) ∧ Below W.heap.size W w') := Lib.hid (fun W hW => row_any W l5 A5 c5 31 true (HR1.out.below hW).h5 (by omega) (by decide) (by decide))
  have HR7 : Hid (∀ W, Below w1.heap.size w1 W → Calls Try.prog 34 #[.slice A7 l7.length c7, .int .i64 366, .bool true] W fun e w' => e = .returned (.bool (rowB l7 366 true)) ∧ Below W.heap.size W w') := Lib.hid (fun W hW => row_any W l7 A7 c7 366 true (HR1.out.below hW).h7 (by have := HR1.out.n7; omega) (by decide) (by decide))
  have HDM : Hid (∀ W, Below w1.heap.size w1 W → Calls Try.prog 35 #[.agg #[.int .i64 a0, .int .i64 a1, .int .i64 a2, .int .i64 a3, .slice A4 l4.length c4, .slice A5 l5.length c5, .slice A6 l6.length c6, .slice A7 l7.length c7, .int .i64 a8]] W fun e w' => e = .returned (.bool (daysB a0 l4 l6)) ∧ Below W.heap.size W w') := Lib.hid (fun W hW => daysMay_any a0 a1 a2 a3 a8 A4 A5 A6 A7 c4 c5 c6 c7 l4 l5 l7 l6 W (HR1.out.below hW).h4 (HR1.out.below hW).h6 (by omega) (by omega))
  obtain ⟨q0, q1, q2, q3, q4, q5, q6, q7, q8⟩ := cells9 H1.out
  have hw1 : wrap64 ((l4.length : Int) + (l5.length : Int)) = (l4.length : Int) + (l5.length : Int) := IntWalk.wrap64_in _ (by omega)
  have hw2 : wrap64 ((l4.length : Int) + (l5.length : Int) + (l6.length : Int)) = (l4.length : Int) + (l5.length : Int) + (l6.length : Int) := IntWalk.wrap64_in _ (by clear hw1; omega)
  go_upto_region 2 with (fail)
  simp only [List.append_eq, List.cons_append, List.nil_append]
  clear hw1 hw2
  obtain ⟨sb, hsb⟩ : ∃ b, b = decide ((0 : Int) < (l4.length : Int) + (l5.length : Int) + (l6.length : Int)) := ⟨_, rfl⟩
  rw [← hsb]
  have HSB := Lib.hid hsb
  clear hsb
  by_cases e0 : 1 ≤ a0
  · have E0 := Lib.hid e0
    have d0 : decide (1 ≤ a0) = true := decide_eq_true e0
    clear e0
    by_cases e1 : a0 ≤ 4
    · have E1 := Lib.hid e1
      have d1 : decide (a0 ≤ 4) = true := decide_eq_true e1
      clear e1
      by_cases e2 : 1 ≤ a1
      · have E2 := Lib.hid e2
        have d2 : decide (1 ≤ a1) = true := decide_eq_true e2
        clear e2
        by_cases e3 : a1 ≤ 999
        · have E3 := Lib.hid e3
          have d3 : decide (a1 ≤ 999) = true := decide_eq_true e3
          clear e3
          cases e4 : endsB a2 a3 with
          | false =>
            rw [e4] at HEN
            clear e4
            go_wp2_with (first | ((with_reducible refine gate_ (.load 25 (.tmp 1)) rfl ?_); (try (refine gate_guard (by rfl) ?_; dsimp only)); refine wpList_load_row rfl 25 (.tmp 1) rfl g1 rfl 25 _ (0, 0) _ H1.out Try.underlying25 rfl info25_ ?_) | ((with_reducible refine (HEN.out _ HQ1.out).mono ?_); rintro e w2 ⟨rfl, hb2⟩; have HQ2 := Lib.hid (HQ1.out.trans (hb2.mono HQ1.out.size)); clear hb2; have HX2 := Lib.hid (keep_below HQ2.out H1.out); obtain ⟨p20, p21, p22, p23, p24, p25, p26, p27, p28⟩ := cells9 HX2.out))
            go_ret
            refine ⟨?_, HB1.out.trans (HQ2.out.mono HB1.out.size)⟩
            first | rfl | (show Ending.returned (.bool (decide (a8 ≤ 6))) = _; rw [d12])
          | true =>
            rw [e4] at HEN
            have E4 := Lib.hid e4
            clear e4
            exact absurd ⟨E0.out, E1.out, E2.out, E3.out, E4.out⟩ HN.out
        · have d3 : decide (a1 ≤ 999) = false := decide_eq_false e3
          clear e3
          go_wp2
          go_ret
          refine ⟨?_, HB1.out⟩
          first | rfl | (show Ending.returned (.bool (decide (a8 ≤ 6))) = _; rw [d12])
      · have d2 : decide (1 ≤ a1) = false := decide_eq_false e2
        clear e2
        go_wp2
        go_ret
        refine ⟨?_, HB1.out⟩
        first | rfl | (show Ending.returned (.bool (decide (a8 ≤ 6))) = _; rw [d12])
    · have d1 : decide (a0 ≤ 4) = false := decide_eq_false e1
      clear e1
      go_wp2
      go_ret
      refine ⟨?_, HB1.out⟩
      first | rfl | (show Ending.returned (.bool (decide (a8 ≤ 6))) = _; rw [d12])
  · have d0 : decide (1 ≤ a0) = false := decide_eq_false e0
    clear e0
    go_wp2
    go_ret
    refine ⟨?_, HB1.out⟩
    first | rfl | (show Ending.returned (.bool (decide (a8 ≤ 6))) = _; rw [d12])
set_option maxHeartbeats 16000000 in
set_option maxRecDepth 100000 in
theorem rmn_b {a0 a1 a2 a3 a8 : Int} {A4 A5 A6 A7 : Option Addr} {c4 c5 c6 c7 : Nat} {l4 l5 l7 : List Int} {l6 : List S58} (w : World) (hR : RC w A4 A5 A6 A7 c4 c5 c6 c7 l4 l5 l7 l6) (G0 : 1 ≤ a0) (G1 : a0 ≤ 4) (G2 : 1 ≤ a1) (G3 : a1 ≤ 999) (G4 : endsB a2 a3 = true) (hn : ¬ (rowB l4 12 false = true ∧ rowB l5 31 true = true ∧ (a0 = 2 → l5.length = 0))) :
    Calls Try.prog 26 #[.agg #[.int .i64 a0, .int .i64 a1, .int .i64 a2, .int .i64 a3, .slice A4 l4.length c4, .slice A5 l5.length c5, .slice A6 l6.length c6, .slice A7 l7.length c7, .int .i64 a8]] w fun e w' => e = .returned (.bool false) ∧ Below w.heap.size w w' := by
  have HN := Lib.hid hn
  clear hn
  have HR := Lib.hid hR
  have hn4 := hR.n4
  have hn5 := hR.n5
  have hn6 := hR.n6
  clear hR
  go_enter Try.func26, Try.ntmps26
  go_upto_region 1 with (fail)
  have H1 : Hid ((w.alloc (.cells #[.int .i64 a0, .int .i64 a1, .int .i64 a2, .int .i64 a3, .slice A4 l4.length c4, .slice A5 l5.length c5, .slice A6 l6.length c6, .slice A7 l7.length c7, .int .i64 a8] 25)).heap[w.heap.size]? = some (.cells #[.int .i64 a0, .int .i64 a1, .int .i64 a2, .int .i64 a3, .slice A4 l4.length c4, .slice A5 l5.length c5, .slice A6 l6.length c6, .slice A7 l7.length c7, .int .i64 a8] 25 (0, 0))) := Lib.hid (alloc_blk _ _ _)
  have HB1 : Hid (Below w.heap.size w (w.alloc (.cells #[.int .i64 a0, .int .i64 a1, .int .i64 a2, .int .i64 a3, .slice A4 l4.length c4, .slice A5 l5.length c5, .slice A6 l6.length c6, .slice A7 l7.length c7, .int .i64 a8] 25))) := Lib.hid below_new_
  obtain ⟨g1, hg1⟩ : ∃ x, x = w.heap.size := ⟨_, rfl⟩
  rw [← hg1] at H1 ⊢
  clear hg1
  generalize w.alloc (.cells #[.int .i64 a0, .int .i64 a1, .int .i64 a2, .int .i64 a3, .slice A4 l4.length c4, .slice A5 l5.length c5, .slice A6 l6.length c6, .slice A7 l7.length c7, .int .i64 a8] 25) = w1 at H1 HB1 ⊢
  have HR1 := Lib.hid (HR.out.below HB1.out)
  have HQ1 : Hid (Below w1.heap.size w1 w1) := Lib.hid (Below.refl _ _)
  have HEN : Hid (∀ W, Below w1.heap.size w1 W → Calls Try.prog 33 #[.agg #[.int .i64 a0, .int .i64 a1, .int .i64 a2, .int .i64 a3, .slice A4 l4.length c4, .slice A5 l5.length c5, .slice A6 l6.length c6, .slice A7 l7.length c7, .int .i64 a8]] W fun e w' => e = .returned (.bool (endsB a2 a3)) ∧ Below W.heap.size W w') := Lib.hid (fun W hW => by
    have h := HR1.out.below hW
    exact rule_ends.calls a0 a1 a2 a3 A4 c4 l4 A5 c5 l5 A6 c6 l6 A7 c7 l7 a8 _ W h.h4 h.k4 h.h5 h.k5 h.h6 h.k6 h.h7 h.k7 (ends_f a0 a1 a2 a3 a8 l4 l5 l7 l6))
  have HR4 : Hid (∀ W, Below w1.heap.size w1 W → Calls Try.prog 34 #[.slice A4 l4.length c4, .int .i64 12, .bool false] W fun e w' => e = .returned (.bool (rowB l4 12 false)) ∧ Below W.heap.size W w') := Lib.hid (fun W hW => row_any W l4 A4 c4 12 false (HR1.out.below hW).h4 (by omega) (by decide) (by decide))
  have HR5 : Hid (∀ W, Below w1.heap.size w1 W → Calls Try.prog 34 #[.slice A5 l5.length c5, .int .i64 31, .bool true] W fun e w' => e = .returned (.bool (rowB l5 31 true)) ∧ Below W.heap.size W w') := Lib.hid (fun W hW => row_any W l5 A5 c5 31 true (HR1.out.below hW).h5 (by omega) (by decide) (by decide))
  have HR7 : Hid (∀ W, Below w1.heap.size w1 W → Calls Try.prog 34 #[.slice A7 l7.length c7, .int .i64 366, .bool true] W fun e w' => e = .returned (.bool (rowB l7 366 true)) ∧ Below W.heap.size W w') := Lib.hid (fun W hW => row_any W l7 A7 c7 366 true (HR1.out.below hW).h7 (by have := HR1.out.n7; omega) (by decide) (by decide))
  have HDM : Hid (∀ W, Below w1.heap.size w1 W → Calls Try.prog 35 #[.agg #[.int .i64 a0, .int .i64 a1, .int .i64 a2, .int .i64 a3, .slice A4 l4.length c4, .slice A5 l5.length c5, .slice A6 l6.length c6, .slice A7 l7.length c7, .int .i64 a8]] W fun e w' => e = .returned (.bool (daysB a0 l4 l6)) ∧ Below W.heap.size W w') := Lib.hid (fun W hW => daysMay_any a0 a1 a2 a3 a8 A4 A5 A6 A7 c4 c5 c6 c7 l4 l5 l7 l6 W (HR1.out.below hW).h4 (HR1.out.below hW).h6 (by omega) (by omega))
  obtain ⟨q0, q1, q2, q3, q4, q5, q6, q7, q8⟩ := cells9 H1.out
  have hw1 : wrap64 ((l4.length : Int) + (l5.length : Int)) = (l4.length : Int) + (l5.length : Int) := IntWalk.wrap64_in _ (by omega)
  have hw2 : wrap64 ((l4.length : Int) + (l5.length : Int) + (l6.length : Int)) = (l4.length : Int) + (l5.length : Int) + (l6.length : Int) := IntWalk.wrap64_in _ (by clear hw1; omega)
  go_upto_region 2 with (fail)
  simp only [List.append_eq, List.cons_append, List.nil_append]
  clear hw1 hw2
  obtain ⟨sb, hsb⟩ : ∃ b, b = decide ((0 : Int) < (l4.length : Int) + (l5.length : Int) + (l6.length : Int)) := ⟨_, rfl⟩
  rw [← hsb]
  have HSB := Lib.hid hsb
  clear hsb
  have d2 : decide (1 ≤ a1) = true := decide_eq_true G2
  clear G2
  have d3 : decide (a1 ≤ 999) = true := decide_eq_true G3
  clear G3
  rw [G4] at HEN
  cases e5 : rowB l4 12 false with
  | false =>
    rw [e5] at HR4
    clear e5
    have d0 : decide (1 ≤ a0) = true := decide_eq_true G0
    have d1 : decide (a0 ≤ 4) = true := decide_eq_true G1
    clear G0 G1
    go_wp2_with (first | ((with_reducible refine gate_ (.load 25 (.tmp 1)) rfl ?_); (try (refine gate_guard (by rfl) ?_; dsimp only)); refine wpList_load_row rfl 25 (.tmp 1) rfl g1 rfl 25 _ (0, 0) _ H1.out Try.underlying25 rfl info25_ ?_) | ((with_reducible refine (HEN.out _ HQ1.out).mono ?_); rintro e w2 ⟨rfl, hb2⟩; have HQ2 := Lib.hid (HQ1.out.trans (hb2.mono HQ1.out.size)); clear hb2; have HX2 := Lib.hid (keep_below HQ2.out H1.out); obtain ⟨p20, p21, p22, p23, p24, p25, p26, p27, p28⟩ := cells9 HX2.out) | ((with_reducible refine (HR4.out _ HQ2.out).mono ?_); rintro e w3 ⟨rfl, hb3⟩; have HQ3 := Lib.hid (HQ2.out.trans (hb3.mono HQ2.out.size)); clear hb3; have HX3 := Lib.hid (keep_below HQ3.out H1.out); obtain ⟨p30, p31, p32, p33, p34, p35, p36, p37, p38⟩ := cells9 HX3.out))
    go_ret
    refine ⟨?_, HB1.out.trans (HQ3.out.mono HB1.out.size)⟩
    first | rfl | (show Ending.returned (.bool (decide (a8 ≤ 6))) = _; rw [d12])
  | true =>
    rw [e5] at HR4
    have E5 := Lib.hid e5
    clear e5
    cases e6 : rowB l5 31 true with
    | false =>
      rw [e6] at HR5
      clear e6
      have d0 : decide (1 ≤ a0) = true := decide_eq_true G0
      have d1 : decide (a0 ≤ 4) = true := decide_eq_true G1
      clear G0 G1
      go_wp2_with (first | ((with_reducible refine gate_ (.load 25 (.tmp 1)) rfl ?_); (try (refine gate_guard (by rfl) ?_; dsimp only)); refine wpList_load_row rfl 25 (.tmp 1) rfl g1 rfl 25 _ (0, 0) _ H1.out Try.underlying25 rfl info25_ ?_) | ((with_reducible refine (HEN.out _ HQ1.out).mono ?_); rintro e w2 ⟨rfl, hb2⟩; have HQ2 := Lib.hid (HQ1.out.trans (hb2.mono HQ1.out.size)); clear hb2; have HX2 := Lib.hid (keep_below HQ2.out H1.out); obtain ⟨p20, p21, p22, p23, p24, p25, p26, p27, p28⟩ := cells9 HX2.out) | ((with_reducible refine (HR4.out _ HQ2.out).mono ?_); rintro e w3 ⟨rfl, hb3⟩; have HQ3 := Lib.hid (HQ2.out.trans (hb3.mono HQ2.out.size)); clear hb3; have HX3 := Lib.hid (keep_below HQ3.out H1.out); obtain ⟨p30, p31, p32, p33, p34, p35, p36, p37, p38⟩ := cells9 HX3.out) | ((with_reducible refine (HR5.out _ HQ3.out).mono ?_); rintro e w4 ⟨rfl, hb4⟩; have HQ4 := Lib.hid (HQ3.out.trans (hb4.mono HQ3.out.size)); clear hb4; have HX4 := Lib.hid (keep_below HQ4.out H1.out); obtain ⟨p40, p41, p42, p43, p44, p45, p46, p47, p48⟩ := cells9 HX4.out))
      go_ret
      refine ⟨?_, HB1.out.trans (HQ4.out.mono HB1.out.size)⟩
      first | rfl | (show Ending.returned (.bool (decide (a8 ≤ 6))) = _; rw [d12])
    | true =>
      rw [e6] at HR5
      have E6 := Lib.hid e6
      clear e6
      by_cases e7 : a0 = 2
      · obtain rfl := e7
        clear G0 G1
        by_cases e7b : l5.length = 0
        · have e7c : (l5.length : Int) = 0 := by omega
          have E7 : Hid ((2 : Int) = 2 → l5.length = 0) := Lib.hid (fun _ => e7b)
          exact absurd ⟨E5.out, E6.out, E7.out⟩ HN.out
        · have e7c : ¬ (l5.length : Int) = 0 := by omega
          have e7d : ((l5.length : Int) == 0) = false := by rw [Bool.eq_false_iff]; intro h; exact e7c (eq_of_beq h)
          go_wp2_with (first | ((with_reducible refine gate_ (.load 25 (.tmp 1)) rfl ?_); (try (refine gate_guard (by rfl) ?_; dsimp only)); refine wpList_load_row rfl 25 (.tmp 1) rfl g1 rfl 25 _ (0, 0) _ H1.out Try.underlying25 rfl info25_ ?_) | ((with_reducible refine (HEN.out _ HQ1.out).mono ?_); rintro e w2 ⟨rfl, hb2⟩; have HQ2 := Lib.hid (HQ1.out.trans (hb2.mono HQ1.out.size)); clear hb2; have HX2 := Lib.hid (keep_below HQ2.out H1.out); obtain ⟨p20, p21, p22, p23, p24, p25, p26, p27, p28⟩ := cells9 HX2.out) | ((with_reducible refine (HR4.out _ HQ2.out).mono ?_); rintro e w3 ⟨rfl, hb3⟩; have HQ3 := Lib.hid (HQ2.out.trans (hb3.mono HQ2.out.size)); clear hb3; have HX3 := Lib.hid (keep_below HQ3.out H1.out); obtain ⟨p30, p31, p32, p33, p34, p35, p36, p37, p38⟩ := cells9 HX3.out) | ((with_reducible refine (HR5.out _ HQ3.out).mono ?_); rintro e w4 ⟨rfl, hb4⟩; have HQ4 := Lib.hid (HQ3.out.trans (hb4.mono HQ3.out.size)); clear hb4; have HX4 := Lib.hid (keep_below HQ4.out H1.out); obtain ⟨p40, p41, p42, p43, p44, p45, p46, p47, p48⟩ := cells9 HX4.out))
          go_ret
          refine ⟨?_, HB1.out.trans (HQ4.out.mono HB1.out.size)⟩
          first | rfl | (show Ending.returned (.bool (decide (a8 ≤ 6))) = _; rw [d12])
      · have e7d : (a0 != 2) = true := by simp [e7]
        have d0 : decide (1 ≤ a0) = true := decide_eq_true G0
        have d1 : decide (a0 ≤ 4) = true := decide_eq_true G1
        have E7 : Hid (a0 = 2 → l5.length = 0) := Lib.hid (fun h => absurd h e7)
        clear e7 G0 G1
        exact absurd ⟨E5.out, E6.out, E7.out⟩ HN.out
set_option maxHeartbeats 16000000 in
set_option maxRecDepth 100000 in
theorem rmn_c {a0 a1 a2 a3 a8 : Int} {A4 A5 A6 A7 : Option Addr} {c4 c5 c6 c7 : Nat} {l4 l5 l7 : List Int} {l6 : List S58} (w : World) (hR : RC w A4 A5 A6 A7 c4 c5 c6 c7 l4 l5 l7 l6) (G0 : 1 ≤ a0) (G1 : a0 ≤ 4) (G2 : 1 ≤ a1) (G3 : a1 ≤ 999) (G4 : endsB a2 a3 = true) (G5 : rowB l4 12 false = true) (G6 : rowB l5 31 true = true) (G7 : (a0 = 2 → l5.length = 0)) (hn : ¬ (daysB a0 l4 l6 = true ∧ rowB l7 366 true = true)) :
    Calls Try.prog 26 #[.agg #[.int .i64 a0, .int .i64 a1, .int .i64 a2, .int .i64 a3, .slice A4 l4.length c4, .slice A5 l5.length c5, .slice A6 l6.length c6, .slice A7 l7.length c7, .int .i64 a8]] w fun e w' => e = .returned (.bool false) ∧ Below w.heap.size w w' := by
  have HN := Lib.hid hn
  clear hn
  have HR := Lib.hid hR
  have hn4 := hR.n4
  have hn5 := hR.n5
  have hn6 := hR.n6
  clear hR
  go_enter Try.func26, Try.ntmps26
  go_upto_region 1 with (fail)
  have H1 : Hid ((w.alloc (.cells #[.int .i64 a0, .int .i64 a1, .int .i64 a2, .int .i64 a3, .slice A4 l4.length c4, .slice A5 l5.length c5, .slice A6 l6.length c6, .slice A7 l7.length c7, .int .i64 a8] 25)).heap[w.heap.size]? = some (.cells #[.int .i64 a0, .int .i64 a1, .int .i64 a2, .int .i64 a3, .slice A4 l4.length c4, .slice A5 l5.length c5, .slice A6 l6.length c6, .slice A7 l7.length c7, .int .i64 a8] 25 (0, 0))) := Lib.hid (alloc_blk _ _ _)
  have HB1 : Hid (Below w.heap.size w (w.alloc (.cells #[.int .i64 a0, .int .i64 a1, .int .i64 a2, .int .i64 a3, .slice A4 l4.length c4, .slice A5 l5.length c5, .slice A6 l6.length c6, .slice A7 l7.length c7, .int .i64 a8] 25))) := Lib.hid below_new_
  obtain ⟨g1, hg1⟩ : ∃ x, x = w.heap.size := ⟨_, rfl⟩
  rw [← hg1] at H1 ⊢
  clear hg1
  generalize w.alloc (.cells #[.int .i64 a0, .int .i64 a1, .int .i64 a2, .int .i64 a3, .slice A4 l4.length c4, .slice A5 l5.length c5, .slice A6 l6.length c6, .slice A7 l7.length c7, .int .i64 a8] 25) = w1 at H1 HB1 ⊢
  have HR1 := Lib.hid (HR.out.below HB1.out)
  have HQ1 : Hid (Below w1.heap.size w1 w1) := Lib.hid (Below.refl _ _)
  have HEN : Hid (∀ W, Below w1.heap.size w1 W → Calls Try.prog 33 #[.agg #[.int .i64 a0, .int .i64 a1, .int .i64 a2, .int .i64 a3, .slice A4 l4.length c4, .slice A5 l5.length c5, .slice A6 l6.length c6, .slice A7 l7.length c7, .int .i64 a8]] W fun e w' => e = .returned (.bool (endsB a2 a3)) ∧ Below W.heap.size W w') := Lib.hid (fun W hW => by
    have h := HR1.out.below hW
    exact rule_ends.calls a0 a1 a2 a3 A4 c4 l4 A5 c5 l5 A6 c6 l6 A7 c7 l7 a8 _ W h.h4 h.k4 h.h5 h.k5 h.h6 h.k6 h.h7 h.k7 (ends_f a0 a1 a2 a3 a8 l4 l5 l7 l6))
  have HR4 : Hid (∀ W, Below w1.heap.size w1 W → Calls Try.prog 34 #[.slice A4 l4.length c4, .int .i64 12, .bool false] W fun e w' => e = .returned (.bool (rowB l4 12 false)) ∧ Below W.heap.size W w') := Lib.hid (fun W hW => row_any W l4 A4 c4 12 false (HR1.out.below hW).h4 (by omega) (by decide) (by decide))
  have HR5 : Hid (∀ W, Below w1.heap.size w1 W → Calls Try.prog 34 #[.slice A5 l5.length c5, .int .i64 31, .bool true] W fun e w' => e = .returned (.bool (rowB l5 31 true)) ∧ Below W.heap.size W w') := Lib.hid (fun W hW => row_any W l5 A5 c5 31 true (HR1.out.below hW).h5 (by omega) (by decide) (by decide))
  have HR7 : Hid (∀ W, Below w1.heap.size w1 W → Calls Try.prog 34 #[.slice A7 l7.length c7, .int .i64 366, .bool true] W fun e w' => e = .returned (.bool (rowB l7 366 true)) ∧ Below W.heap.size W w') := Lib.hid (fun W hW => row_any W l7 A7 c7 366 true (HR1.out.below hW).h7 (by have := HR1.out.n7; omega) (by decide) (by decide))
  have HDM : Hid (∀ W, Below w1.heap.size w1 W → Calls Try.prog 35 #[.agg #[.int .i64 a0, .int .i64 a1, .int .i64 a2, .int .i64 a3, .slice A4 l4.length c4, .slice A5 l5.length c5, .slice A6 l6.length c6, .slice A7 l7.length c7, .int .i64 a8]] W fun e w' => e = .returned (.bool (daysB a0 l4 l6)) ∧ Below W.heap.size W w') := Lib.hid (fun W hW => daysMay_any a0 a1 a2 a3 a8 A4 A5 A6 A7 c4 c5 c6 c7 l4 l5 l7 l6 W (HR1.out.below hW).h4 (HR1.out.below hW).h6 (by omega) (by omega))
  obtain ⟨q0, q1, q2, q3, q4, q5, q6, q7, q8⟩ := cells9 H1.out
  have hw1 : wrap64 ((l4.length : Int) + (l5.length : Int)) = (l4.length : Int) + (l5.length : Int) := IntWalk.wrap64_in _ (by omega)
  have hw2 : wrap64 ((l4.length : Int) + (l5.length : Int) + (l6.length : Int)) = (l4.length : Int) + (l5.length : Int) + (l6.length : Int) := IntWalk.wrap64_in _ (by clear hw1; omega)
  go_upto_region 2 with (fail)
  simp only [List.append_eq, List.cons_append, List.nil_append]
  clear hw1 hw2
  obtain ⟨sb, hsb⟩ : ∃ b, b = decide ((0 : Int) < (l4.length : Int) + (l5.length : Int) + (l6.length : Int)) := ⟨_, rfl⟩
  rw [← hsb]
  have HSB := Lib.hid hsb
  clear hsb
  have d2 : decide (1 ≤ a1) = true := decide_eq_true G2
  clear G2
  have d3 : decide (a1 ≤ 999) = true := decide_eq_true G3
  clear G3
  rw [G4] at HEN
  rw [G5] at HR4
  rw [G6] at HR5
  by_cases e7 : a0 = 2
  · have e7c : (l5.length : Int) = 0 := by have := G7 e7; omega
    obtain rfl := e7
    clear G7 G0 G1
    cases e8 : daysB 2 l4 l6 with
    | false =>
      rw [e8] at HDM
      clear e8
      go_wp2_with (first | ((with_reducible refine gate_ (.load 25 (.tmp 1)) rfl ?_); (try (refine gate_guard (by rfl) ?_; dsimp only)); refine wpList_load_row rfl 25 (.tmp 1) rfl g1 rfl 25 _ (0, 0) _ H1.out Try.underlying25 rfl info25_ ?_) | ((with_reducible refine (HEN.out _ HQ1.out).mono ?_); rintro e w2 ⟨rfl, hb2⟩; have HQ2 := Lib.hid (HQ1.out.trans (hb2.mono HQ1.out.size)); clear hb2; have HX2 := Lib.hid (keep_below HQ2.out H1.out); obtain ⟨p20, p21, p22, p23, p24, p25, p26, p27, p28⟩ := cells9 HX2.out) | ((with_reducible refine (HR4.out _ HQ2.out).mono ?_); rintro e w3 ⟨rfl, hb3⟩; have HQ3 := Lib.hid (HQ2.out.trans (hb3.mono HQ2.out.size)); clear hb3; have HX3 := Lib.hid (keep_below HQ3.out H1.out); obtain ⟨p30, p31, p32, p33, p34, p35, p36, p37, p38⟩ := cells9 HX3.out) | ((with_reducible refine (HR5.out _ HQ3.out).mono ?_); rintro e w4 ⟨rfl, hb4⟩; have HQ4 := Lib.hid (HQ3.out.trans (hb4.mono HQ3.out.size)); clear hb4; have HX4 := Lib.hid (keep_below HQ4.out H1.out); obtain ⟨p40, p41, p42, p43, p44, p45, p46, p47, p48⟩ := cells9 HX4.out) | ((with_reducible refine gate_ (.load 25 (.tmp 1)) rfl ?_); (try (refine gate_guard (by rfl) ?_; dsimp only)); refine wpList_load_row rfl 25 (.tmp 1) rfl g1 rfl 25 _ (0, 0) _ HX4.out Try.underlying25 rfl info25_ ?_) | ((with_reducible refine (HDM.out _ HQ4.out).mono ?_); rintro e w5 ⟨rfl, hb5⟩; have HQ5 := Lib.hid (HQ4.out.trans (hb5.mono HQ4.out.size)); clear hb5; have HX5 := Lib.hid (keep_below HQ5.out H1.out); obtain ⟨p50, p51, p52, p53, p54, p55, p56, p57, p58⟩ := cells9 HX5.out))
      go_ret
      refine ⟨?_, HB1.out.trans (HQ5.out.mono HB1.out.size)⟩
      first | rfl | (show Ending.returned (.bool (decide (a8 ≤ 6))) = _; rw [d12])
    | true =>
      rw [e8] at HDM
      have E8 := Lib.hid e8
      clear e8
      cases e9 : rowB l7 366 true with
      | false =>
        rw [e9] at HR7
        clear e9
        go_wp2_with (first | ((with_reducible refine gate_ (.load 25 (.tmp 1)) rfl ?_); (try (refine gate_guard (by rfl) ?_; dsimp only)); refine wpList_load_row rfl 25 (.tmp 1) rfl g1 rfl 25 _ (0, 0) _ H1.out Try.underlying25 rfl info25_ ?_) | ((with_reducible refine (HEN.out _ HQ1.out).mono ?_); rintro e w2 ⟨rfl, hb2⟩; have HQ2 := Lib.hid (HQ1.out.trans (hb2.mono HQ1.out.size)); clear hb2; have HX2 := Lib.hid (keep_below HQ2.out H1.out); obtain ⟨p20, p21, p22, p23, p24, p25, p26, p27, p28⟩ := cells9 HX2.out) | ((with_reducible refine (HR4.out _ HQ2.out).mono ?_); rintro e w3 ⟨rfl, hb3⟩; have HQ3 := Lib.hid (HQ2.out.trans (hb3.mono HQ2.out.size)); clear hb3; have HX3 := Lib.hid (keep_below HQ3.out H1.out); obtain ⟨p30, p31, p32, p33, p34, p35, p36, p37, p38⟩ := cells9 HX3.out) | ((with_reducible refine (HR5.out _ HQ3.out).mono ?_); rintro e w4 ⟨rfl, hb4⟩; have HQ4 := Lib.hid (HQ3.out.trans (hb4.mono HQ3.out.size)); clear hb4; have HX4 := Lib.hid (keep_below HQ4.out H1.out); obtain ⟨p40, p41, p42, p43, p44, p45, p46, p47, p48⟩ := cells9 HX4.out) | ((with_reducible refine gate_ (.load 25 (.tmp 1)) rfl ?_); (try (refine gate_guard (by rfl) ?_; dsimp only)); refine wpList_load_row rfl 25 (.tmp 1) rfl g1 rfl 25 _ (0, 0) _ HX4.out Try.underlying25 rfl info25_ ?_) | ((with_reducible refine (HDM.out _ HQ4.out).mono ?_); rintro e w5 ⟨rfl, hb5⟩; have HQ5 := Lib.hid (HQ4.out.trans (hb5.mono HQ4.out.size)); clear hb5; have HX5 := Lib.hid (keep_below HQ5.out H1.out); obtain ⟨p50, p51, p52, p53, p54, p55, p56, p57, p58⟩ := cells9 HX5.out) | ((with_reducible refine (HR7.out _ HQ5.out).mono ?_); rintro e w6 ⟨rfl, hb6⟩; have HQ6 := Lib.hid (HQ5.out.trans (hb6.mono HQ5.out.size)); clear hb6; have HX6 := Lib.hid (keep_below HQ6.out H1.out); obtain ⟨p60, p61, p62, p63, p64, p65, p66, p67, p68⟩ := cells9 HX6.out))
        go_ret
        refine ⟨?_, HB1.out.trans (HQ6.out.mono HB1.out.size)⟩
        first | rfl | (show Ending.returned (.bool (decide (a8 ≤ 6))) = _; rw [d12])
      | true =>
        rw [e9] at HR7
        have E9 := Lib.hid e9
        clear e9
        exact absurd ⟨E8.out, E9.out⟩ HN.out
  · have e7d : (a0 != 2) = true := by simp [e7]
    have d0 : decide (1 ≤ a0) = true := decide_eq_true G0
    have d1 : decide (a0 ≤ 4) = true := decide_eq_true G1
    clear G7 e7 G0 G1
    cases e8 : daysB a0 l4 l6 with
    | false =>
      rw [e8] at HDM
      clear e8
      go_wp2_with (first | ((with_reducible refine gate_ (.load 25 (.tmp 1)) rfl ?_); (try (refine gate_guard (by rfl) ?_; dsimp only)); refine wpList_load_row rfl 25 (.tmp 1) rfl g1 rfl 25 _ (0, 0) _ H1.out Try.underlying25 rfl info25_ ?_) | ((with_reducible refine (HEN.out _ HQ1.out).mono ?_); rintro e w2 ⟨rfl, hb2⟩; have HQ2 := Lib.hid (HQ1.out.trans (hb2.mono HQ1.out.size)); clear hb2; have HX2 := Lib.hid (keep_below HQ2.out H1.out); obtain ⟨p20, p21, p22, p23, p24, p25, p26, p27, p28⟩ := cells9 HX2.out) | ((with_reducible refine (HR4.out _ HQ2.out).mono ?_); rintro e w3 ⟨rfl, hb3⟩; have HQ3 := Lib.hid (HQ2.out.trans (hb3.mono HQ2.out.size)); clear hb3; have HX3 := Lib.hid (keep_below HQ3.out H1.out); obtain ⟨p30, p31, p32, p33, p34, p35, p36, p37, p38⟩ := cells9 HX3.out) | ((with_reducible refine (HR5.out _ HQ3.out).mono ?_); rintro e w4 ⟨rfl, hb4⟩; have HQ4 := Lib.hid (HQ3.out.trans (hb4.mono HQ3.out.size)); clear hb4; have HX4 := Lib.hid (keep_below HQ4.out H1.out); obtain ⟨p40, p41, p42, p43, p44, p45, p46, p47, p48⟩ := cells9 HX4.out) | ((with_reducible refine gate_ (.load 25 (.tmp 1)) rfl ?_); (try (refine gate_guard (by rfl) ?_; dsimp only)); refine wpList_load_row rfl 25 (.tmp 1) rfl g1 rfl 25 _ (0, 0) _ HX4.out Try.underlying25 rfl info25_ ?_) | ((with_reducible refine (HDM.out _ HQ4.out).mono ?_); rintro e w5 ⟨rfl, hb5⟩; have HQ5 := Lib.hid (HQ4.out.trans (hb5.mono HQ4.out.size)); clear hb5; have HX5 := Lib.hid (keep_below HQ5.out H1.out); obtain ⟨p50, p51, p52, p53, p54, p55, p56, p57, p58⟩ := cells9 HX5.out))
      go_ret
      refine ⟨?_, HB1.out.trans (HQ5.out.mono HB1.out.size)⟩
      first | rfl | (show Ending.returned (.bool (decide (a8 ≤ 6))) = _; rw [d12])
    | true =>
      rw [e8] at HDM
      have E8 := Lib.hid e8
      clear e8
      cases e9 : rowB l7 366 true with
      | false =>
        rw [e9] at HR7
        clear e9
        go_wp2_with (first | ((with_reducible refine gate_ (.load 25 (.tmp 1)) rfl ?_); (try (refine gate_guard (by rfl) ?_; dsimp only)); refine wpList_load_row rfl 25 (.tmp 1) rfl g1 rfl 25 _ (0, 0) _ H1.out Try.underlying25 rfl info25_ ?_) | ((with_reducible refine (HEN.out _ HQ1.out).mono ?_); rintro e w2 ⟨rfl, hb2⟩; have HQ2 := Lib.hid (HQ1.out.trans (hb2.mono HQ1.out.size)); clear hb2; have HX2 := Lib.hid (keep_below HQ2.out H1.out); obtain ⟨p20, p21, p22, p23, p24, p25, p26, p27, p28⟩ := cells9 HX2.out) | ((with_reducible refine (HR4.out _ HQ2.out).mono ?_); rintro e w3 ⟨rfl, hb3⟩; have HQ3 := Lib.hid (HQ2.out.trans (hb3.mono HQ2.out.size)); clear hb3; have HX3 := Lib.hid (keep_below HQ3.out H1.out); obtain ⟨p30, p31, p32, p33, p34, p35, p36, p37, p38⟩ := cells9 HX3.out) | ((with_reducible refine (HR5.out _ HQ3.out).mono ?_); rintro e w4 ⟨rfl, hb4⟩; have HQ4 := Lib.hid (HQ3.out.trans (hb4.mono HQ3.out.size)); clear hb4; have HX4 := Lib.hid (keep_below HQ4.out H1.out); obtain ⟨p40, p41, p42, p43, p44, p45, p46, p47, p48⟩ := cells9 HX4.out) | ((with_reducible refine gate_ (.load 25 (.tmp 1)) rfl ?_); (try (refine gate_guard (by rfl) ?_; dsimp only)); refine wpList_load_row rfl 25 (.tmp 1) rfl g1 rfl 25 _ (0, 0) _ HX4.out Try.underlying25 rfl info25_ ?_) | ((with_reducible refine (HDM.out _ HQ4.out).mono ?_); rintro e w5 ⟨rfl, hb5⟩; have HQ5 := Lib.hid (HQ4.out.trans (hb5.mono HQ4.out.size)); clear hb5; have HX5 := Lib.hid (keep_below HQ5.out H1.out); obtain ⟨p50, p51, p52, p53, p54, p55, p56, p57, p58⟩ := cells9 HX5.out) | ((with_reducible refine (HR7.out _ HQ5.out).mono ?_); rintro e w6 ⟨rfl, hb6⟩; have HQ6 := Lib.hid (HQ5.out.trans (hb6.mono HQ5.out.size)); clear hb6; have HX6 := Lib.hid (keep_below HQ6.out H1.out); obtain ⟨p60, p61, p62, p63, p64, p65, p66, p67, p68⟩ := cells9 HX6.out))
        go_ret
        refine ⟨?_, HB1.out.trans (HQ6.out.mono HB1.out.size)⟩
        first | rfl | (show Ending.returned (.bool (decide (a8 ≤ 6))) = _; rw [d12])
      | true =>
        rw [e9] at HR7
        have E9 := Lib.hid e9
        clear e9
        exact absurd ⟨E8.out, E9.out⟩ HN.out
set_option maxHeartbeats 16000000 in
set_option maxRecDepth 100000 in
theorem rmn_d {a0 a1 a2 a3 a8 : Int} {A4 A5 A6 A7 : Option Addr} {c4 c5 c6 c7 : Nat} {l4 l5 l7 : List Int} {l6 : List S58} (w : World) (hR : RC w A4 A5 A6 A7 c4 c5 c6 c7 l4 l5 l7 l6) (G0 : 1 ≤ a0) (G1 : a0 ≤ 4) (G2 : 1 ≤ a1) (G3 : a1 ≤ 999) (G4 : endsB a2 a3 = true) (G5 : rowB l4 12 false = true) (G6 : rowB l5 31 true = true) (G7 : (a0 = 2 → l5.length = 0)) (G8 : daysB a0 l4 l6 = true) (G9 : rowB l7 366 true = true) (hn : ¬ ((0 < l4.length + l5.length + l6.length ∨ l7.length = 0) ∧ 0 ≤ a8 ∧ a8 ≤ 6)) :
    Calls Try.prog 26 #[.agg #[.int .i64 a0, .int .i64 a1, .int .i64 a2, .int .i64 a3, .slice A4 l4.length c4, .slice A5 l5.length c5, .slice A6 l6.length c6, .slice A7 l7.length c7, .int .i64 a8]] w fun e w' => e = .returned (.bool false) ∧ Below w.heap.size w w' := by
  have HN := Lib.hid hn
  clear hn
  have HR := Lib.hid hR
  have hn4 := hR.n4
  have hn5 := hR.n5
  have hn6 := hR.n6
  clear hR
  go_enter Try.func26, Try.ntmps26
  go_upto_region 1 with (fail)
  have H1 : Hid ((w.alloc (.cells #[.int .i64 a0, .int .i64 a1, .int .i64 a2, .int .i64 a3, .slice A4 l4.length c4, .slice A5 l5.length c5, .slice A6 l6.length c6, .slice A7 l7.length c7, .int .i64 a8] 25)).heap[w.heap.size]? = some (.cells #[.int .i64 a0, .int .i64 a1, .int .i64 a2, .int .i64 a3, .slice A4 l4.length c4, .slice A5 l5.length c5, .slice A6 l6.length c6, .slice A7 l7.length c7, .int .i64 a8] 25 (0, 0))) := Lib.hid (alloc_blk _ _ _)
  have HB1 : Hid (Below w.heap.size w (w.alloc (.cells #[.int .i64 a0, .int .i64 a1, .int .i64 a2, .int .i64 a3, .slice A4 l4.length c4, .slice A5 l5.length c5, .slice A6 l6.length c6, .slice A7 l7.length c7, .int .i64 a8] 25))) := Lib.hid below_new_
  obtain ⟨g1, hg1⟩ : ∃ x, x = w.heap.size := ⟨_, rfl⟩
  rw [← hg1] at H1 ⊢
  clear hg1
  generalize w.alloc (.cells #[.int .i64 a0, .int .i64 a1, .int .i64 a2, .int .i64 a3, .slice A4 l4.length c4, .slice A5 l5.length c5, .slice A6 l6.length c6, .slice A7 l7.length c7, .int .i64 a8] 25) = w1 at H1 HB1 ⊢
  have HR1 := Lib.hid (HR.out.below HB1.out)
  have HQ1 : Hid (Below w1.heap.size w1 w1) := Lib.hid (Below.refl _ _)
  have HEN : Hid (∀ W, Below w1.heap.size w1 W → Calls Try.prog 33 #[.agg #[.int .i64 a0, .int .i64 a1, .int .i64 a2, .int .i64 a3, .slice A4 l4.length c4, .slice A5 l5.length c5, .slice A6 l6.length c6, .slice A7 l7.length c7, .int .i64 a8]] W fun e w' => e = .returned (.bool (endsB a2 a3)) ∧ Below W.heap.size W w') := Lib.hid (fun W hW => by
    have h := HR1.out.below hW
    exact rule_ends.calls a0 a1 a2 a3 A4 c4 l4 A5 c5 l5 A6 c6 l6 A7 c7 l7 a8 _ W h.h4 h.k4 h.h5 h.k5 h.h6 h.k6 h.h7 h.k7 (ends_f a0 a1 a2 a3 a8 l4 l5 l7 l6))
  have HR4 : Hid (∀ W, Below w1.heap.size w1 W → Calls Try.prog 34 #[.slice A4 l4.length c4, .int .i64 12, .bool false] W fun e w' => e = .returned (.bool (rowB l4 12 false)) ∧ Below W.heap.size W w') := Lib.hid (fun W hW => row_any W l4 A4 c4 12 false (HR1.out.below hW).h4 (by omega) (by decide) (by decide))
  have HR5 : Hid (∀ W, Below w1.heap.size w1 W → Calls Try.prog 34 #[.slice A5 l5.length c5, .int .i64 31, .bool true] W fun e w' => e = .returned (.bool (rowB l5 31 true)) ∧ Below W.heap.size W w') := Lib.hid (fun W hW => row_any W l5 A5 c5 31 true (HR1.out.below hW).h5 (by omega) (by decide) (by decide))
  have HR7 : Hid (∀ W, Below w1.heap.size w1 W → Calls Try.prog 34 #[.slice A7 l7.length c7, .int .i64 366, .bool true] W fun e w' => e = .returned (.bool (rowB l7 366 true)) ∧ Below W.heap.size W w') := Lib.hid (fun W hW => row_any W l7 A7 c7 366 true (HR1.out.below hW).h7 (by have := HR1.out.n7; omega) (by decide) (by decide))
  have HDM : Hid (∀ W, Below w1.heap.size w1 W → Calls Try.prog 35 #[.agg #[.int .i64 a0, .int .i64 a1, .int .i64 a2, .int .i64 a3, .slice A4 l4.length c4, .slice A5 l5.length c5, .slice A6 l6.length c6, .slice A7 l7.length c7, .int .i64 a8]] W fun e w' => e = .returned (.bool (daysB a0 l4 l6)) ∧ Below W.heap.size W w') := Lib.hid (fun W hW => daysMay_any a0 a1 a2 a3 a8 A4 A5 A6 A7 c4 c5 c6 c7 l4 l5 l7 l6 W (HR1.out.below hW).h4 (HR1.out.below hW).h6 (by omega) (by omega))
  obtain ⟨q0, q1, q2, q3, q4, q5, q6, q7, q8⟩ := cells9 H1.out
  have hw1 : wrap64 ((l4.length : Int) + (l5.length : Int)) = (l4.length : Int) + (l5.length : Int) := IntWalk.wrap64_in _ (by omega)
  have hw2 : wrap64 ((l4.length : Int) + (l5.length : Int) + (l6.length : Int)) = (l4.length : Int) + (l5.length : Int) + (l6.length : Int) := IntWalk.wrap64_in _ (by clear hw1; omega)
  go_upto_region 2 with (fail)
  simp only [List.append_eq, List.cons_append, List.nil_append]
  clear hw1 hw2
  obtain ⟨sb, hsb⟩ : ∃ b, b = decide ((0 : Int) < (l4.length : Int) + (l5.length : Int) + (l6.length : Int)) := ⟨_, rfl⟩
  rw [← hsb]
  have HSB := Lib.hid hsb
  clear hsb
  have d2 : decide (1 ≤ a1) = true := decide_eq_true G2
  clear G2
  have d3 : decide (a1 ≤ 999) = true := decide_eq_true G3
  clear G3
  rw [G4] at HEN
  rw [G5] at HR4
  rw [G6] at HR5
  by_cases e7 : a0 = 2
  · have e7c : (l5.length : Int) = 0 := by have := G7 e7; omega
    obtain rfl := e7
    clear G7 G0 G1
    rw [G8] at HDM
    rw [G9] at HR7
    cases sb with
    | true =>
      have E10 : Hid (0 < l4.length + l5.length + l6.length ∨ l7.length = 0) := Lib.hid (.inl (by have := of_decide_eq_true HSB.out.symm; omega))
      by_cases e11 : 0 ≤ a8
      · have E11 := Lib.hid e11
        have d11 : decide (0 ≤ a8) = true := decide_eq_true e11
        clear e11
        by_cases e12 : a8 ≤ 6
        · have E12 := Lib.hid e12
          have d12 : decide (a8 ≤ 6) = true := decide_eq_true e12
          clear e12
          exact absurd ⟨E10.out, E11.out, E12.out⟩ HN.out
        · have d12 : decide (a8 ≤ 6) = false := decide_eq_false e12
          clear e12
          go_wp2_with (first | ((with_reducible refine gate_ (.load 25 (.tmp 1)) rfl ?_); (try (refine gate_guard (by rfl) ?_; dsimp only)); refine wpList_load_row rfl 25 (.tmp 1) rfl g1 rfl 25 _ (0, 0) _ H1.out Try.underlying25 rfl info25_ ?_) | ((with_reducible refine (HEN.out _ HQ1.out).mono ?_); rintro e w2 ⟨rfl, hb2⟩; have HQ2 := Lib.hid (HQ1.out.trans (hb2.mono HQ1.out.size)); clear hb2; have HX2 := Lib.hid (keep_below HQ2.out H1.out); obtain ⟨p20, p21, p22, p23, p24, p25, p26, p27, p28⟩ := cells9 HX2.out) | ((with_reducible refine (HR4.out _ HQ2.out).mono ?_); rintro e w3 ⟨rfl, hb3⟩; have HQ3 := Lib.hid (HQ2.out.trans (hb3.mono HQ2.out.size)); clear hb3; have HX3 := Lib.hid (keep_below HQ3.out H1.out); obtain ⟨p30, p31, p32, p33, p34, p35, p36, p37, p38⟩ := cells9 HX3.out) | ((with_reducible refine (HR5.out _ HQ3.out).mono ?_); rintro e w4 ⟨rfl, hb4⟩; have HQ4 := Lib.hid (HQ3.out.trans (hb4.mono HQ3.out.size)); clear hb4; have HX4 := Lib.hid (keep_below HQ4.out H1.out); obtain ⟨p40, p41, p42, p43, p44, p45, p46, p47, p48⟩ := cells9 HX4.out) | ((with_reducible refine gate_ (.load 25 (.tmp 1)) rfl ?_); (try (refine gate_guard (by rfl) ?_; dsimp only)); refine wpList_load_row rfl 25 (.tmp 1) rfl g1 rfl 25 _ (0, 0) _ HX4.out Try.underlying25 rfl info25_ ?_) | ((with_reducible refine (HDM.out _ HQ4.out).mono ?_); rintro e w5 ⟨rfl, hb5⟩; have HQ5 := Lib.hid (HQ4.out.trans (hb5.mono HQ4.out.size)); clear hb5; have HX5 := Lib.hid (keep_below HQ5.out H1.out); obtain ⟨p50, p51, p52, p53, p54, p55, p56, p57, p58⟩ := cells9 HX5.out) | ((with_reducible refine (HR7.out _ HQ5.out).mono ?_); rintro e w6 ⟨rfl, hb6⟩; have HQ6 := Lib.hid (HQ5.out.trans (hb6.mono HQ5.out.size)); clear hb6; have HX6 := Lib.hid (keep_below HQ6.out H1.out); obtain ⟨p60, p61, p62, p63, p64, p65, p66, p67, p68⟩ := cells9 HX6.out))
          go_ret
          refine ⟨?_, HB1.out.trans (HQ6.out.mono HB1.out.size)⟩
          first | rfl | (show Ending.returned (.bool (decide (a8 ≤ 6))) = _; rw [d12])
      · have d11 : decide (0 ≤ a8) = false := decide_eq_false e11
        clear e11
        go_wp2_with (first | ((with_reducible refine gate_ (.load 25 (.tmp 1)) rfl ?_); (try (refine gate_guard (by rfl) ?_; dsimp only)); refine wpList_load_row rfl 25 (.tmp 1) rfl g1 rfl 25 _ (0, 0) _ H1.out Try.underlying25 rfl info25_ ?_) | ((with_reducible refine (HEN.out _ HQ1.out).mono ?_); rintro e w2 ⟨rfl, hb2⟩; have HQ2 := Lib.hid (HQ1.out.trans (hb2.mono HQ1.out.size)); clear hb2; have HX2 := Lib.hid (keep_below HQ2.out H1.out); obtain ⟨p20, p21, p22, p23, p24, p25, p26, p27, p28⟩ := cells9 HX2.out) | ((with_reducible refine (HR4.out _ HQ2.out).mono ?_); rintro e w3 ⟨rfl, hb3⟩; have HQ3 := Lib.hid (HQ2.out.trans (hb3.mono HQ2.out.size)); clear hb3; have HX3 := Lib.hid (keep_below HQ3.out H1.out); obtain ⟨p30, p31, p32, p33, p34, p35, p36, p37, p38⟩ := cells9 HX3.out) | ((with_reducible refine (HR5.out _ HQ3.out).mono ?_); rintro e w4 ⟨rfl, hb4⟩; have HQ4 := Lib.hid (HQ3.out.trans (hb4.mono HQ3.out.size)); clear hb4; have HX4 := Lib.hid (keep_below HQ4.out H1.out); obtain ⟨p40, p41, p42, p43, p44, p45, p46, p47, p48⟩ := cells9 HX4.out) | ((with_reducible refine gate_ (.load 25 (.tmp 1)) rfl ?_); (try (refine gate_guard (by rfl) ?_; dsimp only)); refine wpList_load_row rfl 25 (.tmp 1) rfl g1 rfl 25 _ (0, 0) _ HX4.out Try.underlying25 rfl info25_ ?_) | ((with_reducible refine (HDM.out _ HQ4.out).mono ?_); rintro e w5 ⟨rfl, hb5⟩; have HQ5 := Lib.hid (HQ4.out.trans (hb5.mono HQ4.out.size)); clear hb5; have HX5 := Lib.hid (keep_below HQ5.out H1.out); obtain ⟨p50, p51, p52, p53, p54, p55, p56, p57, p58⟩ := cells9 HX5.out) | ((with_reducible refine (HR7.out _ HQ5.out).mono ?_); rintro e w6 ⟨rfl, hb6⟩; have HQ6 := Lib.hid (HQ5.out.trans (hb6.mono HQ5.out.size)); clear hb6; have HX6 := Lib.hid (keep_below HQ6.out H1.out); obtain ⟨p60, p61, p62, p63, p64, p65, p66, p67, p68⟩ := cells9 HX6.out))
        go_ret
        refine ⟨?_, HB1.out.trans (HQ6.out.mono HB1.out.size)⟩
        first | rfl | (show Ending.returned (.bool (decide (a8 ≤ 6))) = _; rw [d12])
    | false =>
      by_cases e10b : l7.length = 0
      · have e10d : (l7.length : Int) = 0 := by omega
        have E10 : Hid (0 < l4.length + l5.length + l6.length ∨ l7.length = 0) := Lib.hid (.inr e10b)
        clear e10b
        by_cases e11 : 0 ≤ a8
        · have E11 := Lib.hid e11
          have d11 : decide (0 ≤ a8) = true := decide_eq_true e11
          clear e11
          by_cases e12 : a8 ≤ 6
          · have E12 := Lib.hid e12
            have d12 : decide (a8 ≤ 6) = true := decide_eq_true e12
            clear e12
            exact absurd ⟨E10.out, E11.out, E12.out⟩ HN.out
          · have d12 : decide (a8 ≤ 6) = false := decide_eq_false e12
            clear e12
            go_wp2_with (first | ((with_reducible refine gate_ (.load 25 (.tmp 1)) rfl ?_); (try (refine gate_guard (by rfl) ?_; dsimp only)); refine wpList_load_row rfl 25 (.tmp 1) rfl g1 rfl 25 _ (0, 0) _ H1.out Try.underlying25 rfl info25_ ?_) | ((with_reducible refine (HEN.out _ HQ1.out).mono ?_); rintro e w2 ⟨rfl, hb2⟩; have HQ2 := Lib.hid (HQ1.out.trans (hb2.mono HQ1.out.size)); clear hb2; have HX2 := Lib.hid (keep_below HQ2.out H1.out); obtain ⟨p20, p21, p22, p23, p24, p25, p26, p27, p28⟩ := cells9 HX2.out) | ((with_reducible refine (HR4.out _ HQ2.out).mono ?_); rintro e w3 ⟨rfl, hb3⟩; have HQ3 := Lib.hid (HQ2.out.trans (hb3.mono HQ2.out.size)); clear hb3; have HX3 := Lib.hid (keep_below HQ3.out H1.out); obtain ⟨p30, p31, p32, p33, p34, p35, p36, p37, p38⟩ := cells9 HX3.out) | ((with_reducible refine (HR5.out _ HQ3.out).mono ?_); rintro e w4 ⟨rfl, hb4⟩; have HQ4 := Lib.hid (HQ3.out.trans (hb4.mono HQ3.out.size)); clear hb4; have HX4 := Lib.hid (keep_below HQ4.out H1.out); obtain ⟨p40, p41, p42, p43, p44, p45, p46, p47, p48⟩ := cells9 HX4.out) | ((with_reducible refine gate_ (.load 25 (.tmp 1)) rfl ?_); (try (refine gate_guard (by rfl) ?_; dsimp only)); refine wpList_load_row rfl 25 (.tmp 1) rfl g1 rfl 25 _ (0, 0) _ HX4.out Try.underlying25 rfl info25_ ?_) | ((with_reducible refine (HDM.out _ HQ4.out).mono ?_); rintro e w5 ⟨rfl, hb5⟩; have HQ5 := Lib.hid (HQ4.out.trans (hb5.mono HQ4.out.size)); clear hb5; have HX5 := Lib.hid (keep_below HQ5.out H1.out); obtain ⟨p50, p51, p52, p53, p54, p55, p56, p57, p58⟩ := cells9 HX5.out) | ((with_reducible refine (HR7.out _ HQ5.out).mono ?_); rintro e w6 ⟨rfl, hb6⟩; have HQ6 := Lib.hid (HQ5.out.trans (hb6.mono HQ5.out.size)); clear hb6; have HX6 := Lib.hid (keep_below HQ6.out H1.out); obtain ⟨p60, p61, p62, p63, p64, p65, p66, p67, p68⟩ := cells9 HX6.out))
            go_ret
            refine ⟨?_, HB1.out.trans (HQ6.out.mono HB1.out.size)⟩
            first | rfl | (show Ending.returned (.bool (decide (a8 ≤ 6))) = _; rw [d12])
        · have d11 : decide (0 ≤ a8) = false := decide_eq_false e11
          clear e11
          go_wp2_with (first | ((with_reducible refine gate_ (.load 25 (.tmp 1)) rfl ?_); (try (refine gate_guard (by rfl) ?_; dsimp only)); refine wpList_load_row rfl 25 (.tmp 1) rfl g1 rfl 25 _ (0, 0) _ H1.out Try.underlying25 rfl info25_ ?_) | ((with_reducible refine (HEN.out _ HQ1.out).mono ?_); rintro e w2 ⟨rfl, hb2⟩; have HQ2 := Lib.hid (HQ1.out.trans (hb2.mono HQ1.out.size)); clear hb2; have HX2 := Lib.hid (keep_below HQ2.out H1.out); obtain ⟨p20, p21, p22, p23, p24, p25, p26, p27, p28⟩ := cells9 HX2.out) | ((with_reducible refine (HR4.out _ HQ2.out).mono ?_); rintro e w3 ⟨rfl, hb3⟩; have HQ3 := Lib.hid (HQ2.out.trans (hb3.mono HQ2.out.size)); clear hb3; have HX3 := Lib.hid (keep_below HQ3.out H1.out); obtain ⟨p30, p31, p32, p33, p34, p35, p36, p37, p38⟩ := cells9 HX3.out) | ((with_reducible refine (HR5.out _ HQ3.out).mono ?_); rintro e w4 ⟨rfl, hb4⟩; have HQ4 := Lib.hid (HQ3.out.trans (hb4.mono HQ3.out.size)); clear hb4; have HX4 := Lib.hid (keep_below HQ4.out H1.out); obtain ⟨p40, p41, p42, p43, p44, p45, p46, p47, p48⟩ := cells9 HX4.out) | ((with_reducible refine gate_ (.load 25 (.tmp 1)) rfl ?_); (try (refine gate_guard (by rfl) ?_; dsimp only)); refine wpList_load_row rfl 25 (.tmp 1) rfl g1 rfl 25 _ (0, 0) _ HX4.out Try.underlying25 rfl info25_ ?_) | ((with_reducible refine (HDM.out _ HQ4.out).mono ?_); rintro e w5 ⟨rfl, hb5⟩; have HQ5 := Lib.hid (HQ4.out.trans (hb5.mono HQ4.out.size)); clear hb5; have HX5 := Lib.hid (keep_below HQ5.out H1.out); obtain ⟨p50, p51, p52, p53, p54, p55, p56, p57, p58⟩ := cells9 HX5.out) | ((with_reducible refine (HR7.out _ HQ5.out).mono ?_); rintro e w6 ⟨rfl, hb6⟩; have HQ6 := Lib.hid (HQ5.out.trans (hb6.mono HQ5.out.size)); clear hb6; have HX6 := Lib.hid (keep_below HQ6.out H1.out); obtain ⟨p60, p61, p62, p63, p64, p65, p66, p67, p68⟩ := cells9 HX6.out))
          go_ret
          refine ⟨?_, HB1.out.trans (HQ6.out.mono HB1.out.size)⟩
          first | rfl | (show Ending.returned (.bool (decide (a8 ≤ 6))) = _; rw [d12])
      · have e10d : ((l7.length : Int) == 0) = false := by rw [Bool.eq_false_iff]; intro h; have := eq_of_beq h; omega
        go_wp2_with (first | ((with_reducible refine gate_ (.load 25 (.tmp 1)) rfl ?_); (try (refine gate_guard (by rfl) ?_; dsimp only)); refine wpList_load_row rfl 25 (.tmp 1) rfl g1 rfl 25 _ (0, 0) _ H1.out Try.underlying25 rfl info25_ ?_) | ((with_reducible refine (HEN.out _ HQ1.out).mono ?_); rintro e w2 ⟨rfl, hb2⟩; have HQ2 := Lib.hid (HQ1.out.trans (hb2.mono HQ1.out.size)); clear hb2; have HX2 := Lib.hid (keep_below HQ2.out H1.out); obtain ⟨p20, p21, p22, p23, p24, p25, p26, p27, p28⟩ := cells9 HX2.out) | ((with_reducible refine (HR4.out _ HQ2.out).mono ?_); rintro e w3 ⟨rfl, hb3⟩; have HQ3 := Lib.hid (HQ2.out.trans (hb3.mono HQ2.out.size)); clear hb3; have HX3 := Lib.hid (keep_below HQ3.out H1.out); obtain ⟨p30, p31, p32, p33, p34, p35, p36, p37, p38⟩ := cells9 HX3.out) | ((with_reducible refine (HR5.out _ HQ3.out).mono ?_); rintro e w4 ⟨rfl, hb4⟩; have HQ4 := Lib.hid (HQ3.out.trans (hb4.mono HQ3.out.size)); clear hb4; have HX4 := Lib.hid (keep_below HQ4.out H1.out); obtain ⟨p40, p41, p42, p43, p44, p45, p46, p47, p48⟩ := cells9 HX4.out) | ((with_reducible refine gate_ (.load 25 (.tmp 1)) rfl ?_); (try (refine gate_guard (by rfl) ?_; dsimp only)); refine wpList_load_row rfl 25 (.tmp 1) rfl g1 rfl 25 _ (0, 0) _ HX4.out Try.underlying25 rfl info25_ ?_) | ((with_reducible refine (HDM.out _ HQ4.out).mono ?_); rintro e w5 ⟨rfl, hb5⟩; have HQ5 := Lib.hid (HQ4.out.trans (hb5.mono HQ4.out.size)); clear hb5; have HX5 := Lib.hid (keep_below HQ5.out H1.out); obtain ⟨p50, p51, p52, p53, p54, p55, p56, p57, p58⟩ := cells9 HX5.out) | ((with_reducible refine (HR7.out _ HQ5.out).mono ?_); rintro e w6 ⟨rfl, hb6⟩; have HQ6 := Lib.hid (HQ5.out.trans (hb6.mono HQ5.out.size)); clear hb6; have HX6 := Lib.hid (keep_below HQ6.out H1.out); obtain ⟨p60, p61, p62, p63, p64, p65, p66, p67, p68⟩ := cells9 HX6.out))
        go_ret
        refine ⟨?_, HB1.out.trans (HQ6.out.mono HB1.out.size)⟩
        first | rfl | (show Ending.returned (.bool (decide (a8 ≤ 6))) = _; rw [d12])
  · have e7d : (a0 != 2) = true := by simp [e7]
    have d0 : decide (1 ≤ a0) = true := decide_eq_true G0
    have d1 : decide (a0 ≤ 4) = true := decide_eq_true G1
    clear G7 e7 G0 G1
    rw [G8] at HDM
    rw [G9] at HR7
    cases sb with
    | true =>
      have E10 : Hid (0 < l4.length + l5.length + l6.length ∨ l7.length = 0) := Lib.hid (.inl (by have := of_decide_eq_true HSB.out.symm; omega))
      by_cases e11 : 0 ≤ a8
      · have E11 := Lib.hid e11
        have d11 : decide (0 ≤ a8) = true := decide_eq_true e11
        clear e11
        by_cases e12 : a8 ≤ 6
        · have E12 := Lib.hid e12
          have d12 : decide (a8 ≤ 6) = true := decide_eq_true e12
          clear e12
          exact absurd ⟨E10.out, E11.out, E12.out⟩ HN.out
        · have d12 : decide (a8 ≤ 6) = false := decide_eq_false e12
          clear e12
          go_wp2_with (first | ((with_reducible refine gate_ (.load 25 (.tmp 1)) rfl ?_); (try (refine gate_guard (by rfl) ?_; dsimp only)); refine wpList_load_row rfl 25 (.tmp 1) rfl g1 rfl 25 _ (0, 0) _ H1.out Try.underlying25 rfl info25_ ?_) | ((with_reducible refine (HEN.out _ HQ1.out).mono ?_); rintro e w2 ⟨rfl, hb2⟩; have HQ2 := Lib.hid (HQ1.out.trans (hb2.mono HQ1.out.size)); clear hb2; have HX2 := Lib.hid (keep_below HQ2.out H1.out); obtain ⟨p20, p21, p22, p23, p24, p25, p26, p27, p28⟩ := cells9 HX2.out) | ((with_reducible refine (HR4.out _ HQ2.out).mono ?_); rintro e w3 ⟨rfl, hb3⟩; have HQ3 := Lib.hid (HQ2.out.trans (hb3.mono HQ2.out.size)); clear hb3; have HX3 := Lib.hid (keep_below HQ3.out H1.out); obtain ⟨p30, p31, p32, p33, p34, p35, p36, p37, p38⟩ := cells9 HX3.out) | ((with_reducible refine (HR5.out _ HQ3.out).mono ?_); rintro e w4 ⟨rfl, hb4⟩; have HQ4 := Lib.hid (HQ3.out.trans (hb4.mono HQ3.out.size)); clear hb4; have HX4 := Lib.hid (keep_below HQ4.out H1.out); obtain ⟨p40, p41, p42, p43, p44, p45, p46, p47, p48⟩ := cells9 HX4.out) | ((with_reducible refine gate_ (.load 25 (.tmp 1)) rfl ?_); (try (refine gate_guard (by rfl) ?_; dsimp only)); refine wpList_load_row rfl 25 (.tmp 1) rfl g1 rfl 25 _ (0, 0) _ HX4.out Try.underlying25 rfl info25_ ?_) | ((with_reducible refine (HDM.out _ HQ4.out).mono ?_); rintro e w5 ⟨rfl, hb5⟩; have HQ5 := Lib.hid (HQ4.out.trans (hb5.mono HQ4.out.size)); clear hb5; have HX5 := Lib.hid (keep_below HQ5.out H1.out); obtain ⟨p50, p51, p52, p53, p54, p55, p56, p57, p58⟩ := cells9 HX5.out) | ((with_reducible refine (HR7.out _ HQ5.out).mono ?_); rintro e w6 ⟨rfl, hb6⟩; have HQ6 := Lib.hid (HQ5.out.trans (hb6.mono HQ5.out.size)); clear hb6; have HX6 := Lib.hid (keep_below HQ6.out H1.out); obtain ⟨p60, p61, p62, p63, p64, p65, p66, p67, p68⟩ := cells9 HX6.out))
          go_ret
          refine ⟨?_, HB1.out.trans (HQ6.out.mono HB1.out.size)⟩
          first | rfl | (show Ending.returned (.bool (decide (a8 ≤ 6))) = _; rw [d12])
      · have d11 : decide (0 ≤ a8) = false := decide_eq_false e11
        clear e11
        go_wp2_with (first | ((with_reducible refine gate_ (.load 25 (.tmp 1)) rfl ?_); (try (refine gate_guard (by rfl) ?_; dsimp only)); refine wpList_load_row rfl 25 (.tmp 1) rfl g1 rfl 25 _ (0, 0) _ H1.out Try.underlying25 rfl info25_ ?_) | ((with_reducible refine (HEN.out _ HQ1.out).mono ?_); rintro e w2 ⟨rfl, hb2⟩; have HQ2 := Lib.hid (HQ1.out.trans (hb2.mono HQ1.out.size)); clear hb2; have HX2 := Lib.hid (keep_below HQ2.out H1.out); obtain ⟨p20, p21, p22, p23, p24, p25, p26, p27, p28⟩ := cells9 HX2.out) | ((with_reducible refine (HR4.out _ HQ2.out).mono ?_); rintro e w3 ⟨rfl, hb3⟩; have HQ3 := Lib.hid (HQ2.out.trans (hb3.mono HQ2.out.size)); clear hb3; have HX3 := Lib.hid (keep_below HQ3.out H1.out); obtain ⟨p30, p31, p32, p33, p34, p35, p36, p37, p38⟩ := cells9 HX3.out) | ((with_reducible refine (HR5.out _ HQ3.out).mono ?_); rintro e w4 ⟨rfl, hb4⟩; have HQ4 := Lib.hid (HQ3.out.trans (hb4.mono HQ3.out.size)); clear hb4; have HX4 := Lib.hid (keep_below HQ4.out H1.out); obtain ⟨p40, p41, p42, p43, p44, p45, p46, p47, p48⟩ := cells9 HX4.out) | ((with_reducible refine gate_ (.load 25 (.tmp 1)) rfl ?_); (try (refine gate_guard (by rfl) ?_; dsimp only)); refine wpList_load_row rfl 25 (.tmp 1) rfl g1 rfl 25 _ (0, 0) _ HX4.out Try.underlying25 rfl info25_ ?_) | ((with_reducible refine (HDM.out _ HQ4.out).mono ?_); rintro e w5 ⟨rfl, hb5⟩; have HQ5 := Lib.hid (HQ4.out.trans (hb5.mono HQ4.out.size)); clear hb5; have HX5 := Lib.hid (keep_below HQ5.out H1.out); obtain ⟨p50, p51, p52, p53, p54, p55, p56, p57, p58⟩ := cells9 HX5.out) | ((with_reducible refine (HR7.out _ HQ5.out).mono ?_); rintro e w6 ⟨rfl, hb6⟩; have HQ6 := Lib.hid (HQ5.out.trans (hb6.mono HQ5.out.size)); clear hb6; have HX6 := Lib.hid (keep_below HQ6.out H1.out); obtain ⟨p60, p61, p62, p63, p64, p65, p66, p67, p68⟩ := cells9 HX6.out))
        go_ret
        refine ⟨?_, HB1.out.trans (HQ6.out.mono HB1.out.size)⟩
        first | rfl | (show Ending.returned (.bool (decide (a8 ≤ 6))) = _; rw [d12])
    | false =>
      by_cases e10b : l7.length = 0
      · have e10d : (l7.length : Int) = 0 := by omega
        have E10 : Hid (0 < l4.length + l5.length + l6.length ∨ l7.length = 0) := Lib.hid (.inr e10b)
        clear e10b
        by_cases e11 : 0 ≤ a8
        · have E11 := Lib.hid e11
          have d11 : decide (0 ≤ a8) = true := decide_eq_true e11
          clear e11
          by_cases e12 : a8 ≤ 6
          · have E12 := Lib.hid e12
            have d12 : decide (a8 ≤ 6) = true := decide_eq_true e12
            clear e12
            exact absurd ⟨E10.out, E11.out, E12.out⟩ HN.out
          · have d12 : decide (a8 ≤ 6) = false := decide_eq_false e12
            clear e12
            go_wp2_with (first | ((with_reducible refine gate_ (.load 25 (.tmp 1)) rfl ?_); (try (refine gate_guard (by rfl) ?_; dsimp only)); refine wpList_load_row rfl 25 (.tmp 1) rfl g1 rfl 25 _ (0, 0) _ H1.out Try.underlying25 rfl info25_ ?_) | ((with_reducible refine (HEN.out _ HQ1.out).mono ?_); rintro e w2 ⟨rfl, hb2⟩; have HQ2 := Lib.hid (HQ1.out.trans (hb2.mono HQ1.out.size)); clear hb2; have HX2 := Lib.hid (keep_below HQ2.out H1.out); obtain ⟨p20, p21, p22, p23, p24, p25, p26, p27, p28⟩ := cells9 HX2.out) | ((with_reducible refine (HR4.out _ HQ2.out).mono ?_); rintro e w3 ⟨rfl, hb3⟩; have HQ3 := Lib.hid (HQ2.out.trans (hb3.mono HQ2.out.size)); clear hb3; have HX3 := Lib.hid (keep_below HQ3.out H1.out); obtain ⟨p30, p31, p32, p33, p34, p35, p36, p37, p38⟩ := cells9 HX3.out) | ((with_reducible refine (HR5.out _ HQ3.out).mono ?_); rintro e w4 ⟨rfl, hb4⟩; have HQ4 := Lib.hid (HQ3.out.trans (hb4.mono HQ3.out.size)); clear hb4; have HX4 := Lib.hid (keep_below HQ4.out H1.out); obtain ⟨p40, p41, p42, p43, p44, p45, p46, p47, p48⟩ := cells9 HX4.out) | ((with_reducible refine gate_ (.load 25 (.tmp 1)) rfl ?_); (try (refine gate_guard (by rfl) ?_; dsimp only)); refine wpList_load_row rfl 25 (.tmp 1) rfl g1 rfl 25 _ (0, 0) _ HX4.out Try.underlying25 rfl info25_ ?_) | ((with_reducible refine (HDM.out _ HQ4.out).mono ?_); rintro e w5 ⟨rfl, hb5⟩; have HQ5 := Lib.hid (HQ4.out.trans (hb5.mono HQ4.out.size)); clear hb5; have HX5 := Lib.hid (keep_below HQ5.out H1.out); obtain ⟨p50, p51, p52, p53, p54, p55, p56, p57, p58⟩ := cells9 HX5.out) | ((with_reducible refine (HR7.out _ HQ5.out).mono ?_); rintro e w6 ⟨rfl, hb6⟩; have HQ6 := Lib.hid (HQ5.out.trans (hb6.mono HQ5.out.size)); clear hb6; have HX6 := Lib.hid (keep_below HQ6.out H1.out); obtain ⟨p60, p61, p62, p63, p64, p65, p66, p67, p68⟩ := cells9 HX6.out))
            go_ret
            refine ⟨?_, HB1.out.trans (HQ6.out.mono HB1.out.size)⟩
            first | rfl | (show Ending.returned (.bool (decide (a8 ≤ 6))) = _; rw [d12])
        · have d11 : decide (0 ≤ a8) = false := decide_eq_false e11
          clear e11
          go_wp2_with (first | ((with_reducible refine gate_ (.load 25 (.tmp 1)) rfl ?_); (try (refine gate_guard (by rfl) ?_; dsimp only)); refine wpList_load_row rfl 25 (.tmp 1) rfl g1 rfl 25 _ (0, 0) _ H1.out Try.underlying25 rfl info25_ ?_) | ((with_reducible refine (HEN.out _ HQ1.out).mono ?_); rintro e w2 ⟨rfl, hb2⟩; have HQ2 := Lib.hid (HQ1.out.trans (hb2.mono HQ1.out.size)); clear hb2; have HX2 := Lib.hid (keep_below HQ2.out H1.out); obtain ⟨p20, p21, p22, p23, p24, p25, p26, p27, p28⟩ := cells9 HX2.out) | ((with_reducible refine (HR4.out _ HQ2.out).mono ?_); rintro e w3 ⟨rfl, hb3⟩; have HQ3 := Lib.hid (HQ2.out.trans (hb3.mono HQ2.out.size)); clear hb3; have HX3 := Lib.hid (keep_below HQ3.out H1.out); obtain ⟨p30, p31, p32, p33, p34, p35, p36, p37, p38⟩ := cells9 HX3.out) | ((with_reducible refine (HR5.out _ HQ3.out).mono ?_); rintro e w4 ⟨rfl, hb4⟩; have HQ4 := Lib.hid (HQ3.out.trans (hb4.mono HQ3.out.size)); clear hb4; have HX4 := Lib.hid (keep_below HQ4.out H1.out); obtain ⟨p40, p41, p42, p43, p44, p45, p46, p47, p48⟩ := cells9 HX4.out) | ((with_reducible refine gate_ (.load 25 (.tmp 1)) rfl ?_); (try (refine gate_guard (by rfl) ?_; dsimp only)); refine wpList_load_row rfl 25 (.tmp 1) rfl g1 rfl 25 _ (0, 0) _ HX4.out Try.underlying25 rfl info25_ ?_) | ((with_reducible refine (HDM.out _ HQ4.out).mono ?_); rintro e w5 ⟨rfl, hb5⟩; have HQ5 := Lib.hid (HQ4.out.trans (hb5.mono HQ4.out.size)); clear hb5; have HX5 := Lib.hid (keep_below HQ5.out H1.out); obtain ⟨p50, p51, p52, p53, p54, p55, p56, p57, p58⟩ := cells9 HX5.out) | ((with_reducible refine (HR7.out _ HQ5.out).mono ?_); rintro e w6 ⟨rfl, hb6⟩; have HQ6 := Lib.hid (HQ5.out.trans (hb6.mono HQ5.out.size)); clear hb6; have HX6 := Lib.hid (keep_below HQ6.out H1.out); obtain ⟨p60, p61, p62, p63, p64, p65, p66, p67, p68⟩ := cells9 HX6.out))
          go_ret
          refine ⟨?_, HB1.out.trans (HQ6.out.mono HB1.out.size)⟩
          first | rfl | (show Ending.returned (.bool (decide (a8 ≤ 6))) = _; rw [d12])
      · have e10d : ((l7.length : Int) == 0) = false := by rw [Bool.eq_false_iff]; intro h; have := eq_of_beq h; omega
        go_wp2_with (first | ((with_reducible refine gate_ (.load 25 (.tmp 1)) rfl ?_); (try (refine gate_guard (by rfl) ?_; dsimp only)); refine wpList_load_row rfl 25 (.tmp 1) rfl g1 rfl 25 _ (0, 0) _ H1.out Try.underlying25 rfl info25_ ?_) | ((with_reducible refine (HEN.out _ HQ1.out).mono ?_); rintro e w2 ⟨rfl, hb2⟩; have HQ2 := Lib.hid (HQ1.out.trans (hb2.mono HQ1.out.size)); clear hb2; have HX2 := Lib.hid (keep_below HQ2.out H1.out); obtain ⟨p20, p21, p22, p23, p24, p25, p26, p27, p28⟩ := cells9 HX2.out) | ((with_reducible refine (HR4.out _ HQ2.out).mono ?_); rintro e w3 ⟨rfl, hb3⟩; have HQ3 := Lib.hid (HQ2.out.trans (hb3.mono HQ2.out.size)); clear hb3; have HX3 := Lib.hid (keep_below HQ3.out H1.out); obtain ⟨p30, p31, p32, p33, p34, p35, p36, p37, p38⟩ := cells9 HX3.out) | ((with_reducible refine (HR5.out _ HQ3.out).mono ?_); rintro e w4 ⟨rfl, hb4⟩; have HQ4 := Lib.hid (HQ3.out.trans (hb4.mono HQ3.out.size)); clear hb4; have HX4 := Lib.hid (keep_below HQ4.out H1.out); obtain ⟨p40, p41, p42, p43, p44, p45, p46, p47, p48⟩ := cells9 HX4.out) | ((with_reducible refine gate_ (.load 25 (.tmp 1)) rfl ?_); (try (refine gate_guard (by rfl) ?_; dsimp only)); refine wpList_load_row rfl 25 (.tmp 1) rfl g1 rfl 25 _ (0, 0) _ HX4.out Try.underlying25 rfl info25_ ?_) | ((with_reducible refine (HDM.out _ HQ4.out).mono ?_); rintro e w5 ⟨rfl, hb5⟩; have HQ5 := Lib.hid (HQ4.out.trans (hb5.mono HQ4.out.size)); clear hb5; have HX5 := Lib.hid (keep_below HQ5.out H1.out); obtain ⟨p50, p51, p52, p53, p54, p55, p56, p57, p58⟩ := cells9 HX5.out) | ((with_reducible refine (HR7.out _ HQ5.out).mono ?_); rintro e w6 ⟨rfl, hb6⟩; have HQ6 := Lib.hid (HQ5.out.trans (hb6.mono HQ5.out.size)); clear hb6; have HX6 := Lib.hid (keep_below HQ6.out H1.out); obtain ⟨p60, p61, p62, p63, p64, p65, p66, p67, p68⟩ := cells9 HX6.out))
        go_ret
        refine ⟨?_, HB1.out.trans (HQ6.out.mono HB1.out.size)⟩
        first | rfl | (show Ending.returned (.bool (decide (a8 ≤ 6))) = _; rw [d12])
/-- rule.May, where it says no. -/
theorem rule_May_no {a0 a1 a2 a3 a8 : Int} {A4 A5 A6 A7 : Option Addr} {c4 c5 c6 c7 : Nat} {l4 l5 l7 : List Int} {l6 : List S58} (w : World) (hR : RC w A4 A5 A6 A7 c4 c5 c6 c7 l4 l5 l7 l6) (hm : mayB a0 a1 a2 a3 l4 l5 l6 l7 a8 = false) :
    Calls Try.prog 26 #[.agg #[.int .i64 a0, .int .i64 a1, .int .i64 a2, .int .i64 a3, .slice A4 l4.length c4, .slice A5 l5.length c5, .slice A6 l6.length c6, .slice A7 l7.length c7, .int .i64 a8]] w fun e w' => e = .returned (.bool false) ∧ Below w.heap.size w w' := by
  by_cases A : 1 ≤ a0 ∧ a0 ≤ 4 ∧ 1 ≤ a1 ∧ a1 ≤ 999 ∧ endsB a2 a3 = true
  · obtain ⟨h0, h1, h2, h3, h4⟩ := A
    by_cases B : rowB l4 12 false = true ∧ rowB l5 31 true = true ∧ (a0 = 2 → l5.length = 0)
    · obtain ⟨h5, h6, h7⟩ := B
      by_cases C : daysB a0 l4 l6 = true ∧ rowB l7 366 true = true
      · obtain ⟨h8, h9⟩ := C
        refine rmn_d w hR h0 h1 h2 h3 h4 h5 h6 h7 h8 h9 (fun D => ?_)
        obtain ⟨h10, h11, h12⟩ := D
        have : mayB a0 a1 a2 a3 l4 l5 l6 l7 a8 = true := by
          unfold mayB
          simp only [Bool.and_eq_true, decide_eq_true_eq, Bool.or_eq_true, Bool.not_eq_true', decide_eq_false_iff_not]
          exact ⟨⟨⟨⟨⟨⟨⟨⟨⟨⟨⟨⟨h0, h1⟩, h2⟩, h3⟩, h4⟩, h5⟩, h6⟩, (Decidable.em (a0 = 2)).elim (fun e => .inr (h7 e)) .inl⟩, h8⟩, h9⟩, h10⟩, h11⟩, h12⟩
        rw [hm] at this
        cases this
      · exact rmn_c w hR h0 h1 h2 h3 h4 h5 h6 h7 C
    · exact rmn_b w hR h0 h1 h2 h3 h4 B
  · exact rmn_a w hR A
end Go.Proofs.Ytinjbpbpgogdhaa.Own
end
