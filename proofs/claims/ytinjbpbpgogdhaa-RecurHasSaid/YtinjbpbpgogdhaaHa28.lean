-- own text: texts of this session merged by a program of it (merge.py), declarations that nothing reaches left out (prune.py)
import Derived.Test.YtinjbpbpgogdhaaHa26
import Derived.Test.YtinjbpbpgogdhaaHa27
section
namespace Go.Proofs.Ytinjbpbpgogdhaa.Own
open Go.RowKit Go.Shelf Go.Proofs.YtinjbpbpgogdhaaW.PrintWords Go.Proofs.YtinjbpbpgogdhaaW.PrintLast Go.Proofs.YtinjbpbpgogdhaaW.PrintMore
set_option linter.unusedVariables false
set_option linter.unusedSimpArgs false
set_option maxHeartbeats 4000000 in
set_option maxRecDepth 100000 in
/-- walk, where there are no times. -/
theorem walk_no {a0 a1 a2 a3 a8 : Int} {A4 A5 A6 A7 : Option Addr} {c4 c5 c6 c7 : Nat} {l4 l5 l7 : List Int} {l6 : List S58} (start : Int) (w : World) (hR : RC w A4 A5 A6 A7 c4 c5 c6 c7 l4 l5 l7 l6) (hm : mayB a0 a1 a2 a3 l4 l5 l6 l7 a8 = false ∨ start < 0 ∨ 158310720 ≤ start) :
    Calls Try.prog 14 #[.agg #[.int .i64 a0, .int .i64 a1, .int .i64 a2, .int .i64 a3, .slice A4 l4.length c4, .slice A5 l5.length c5, .slice A6 l6.length c6, .slice A7 l7.length c7, .int .i64 a8], .int .i64 start] w fun e w' => e = .returned (.tuple #[.pointer none, .bool false]) ∧ Below w.heap.size w w' := by
  have HR := Lib.hid hR
  clear hR
  go_enter Try.func14, Try.ntmps14
  go_upto_region 1 with (fail)
  have H1 : Hid ((w.alloc (.cells #[.int .i64 a0, .int .i64 a1, .int .i64 a2, .int .i64 a3, .slice A4 l4.length c4, .slice A5 l5.length c5, .slice A6 l6.length c6, .slice A7 l7.length c7, .int .i64 a8] 25)).heap[w.heap.size]? = some (.cells #[.int .i64 a0, .int .i64 a1, .int .i64 a2, .int .i64 a3, .slice A4 l4.length c4, .slice A5 l5.length c5, .slice A6 l6.length c6, .slice A7 l7.length c7, .int .i64 a8] 25 (0, 0))) := Lib.hid (alloc_blk _ _ _)
  have HB1 : Hid (Below w.heap.size w (w.alloc (.cells #[.int .i64 a0, .int .i64 a1, .int .i64 a2, .int .i64 a3, .slice A4 l4.length c4, .slice A5 l5.length c5, .slice A6 l6.length c6, .slice A7 l7.length c7, .int .i64 a8] 25))) := Lib.hid below_new_
  obtain ⟨g1, hg1⟩ : ∃ x, x = w.heap.size := ⟨_, rfl⟩
  rw [← hg1] at H1 ⊢
  clear hg1
  generalize w.alloc (.cells #[.int .i64 a0, .int .i64 a1, .int .i64 a2, .int .i64 a3, .slice A4 l4.length c4, .slice A5 l5.length c5, .slice A6 l6.length c6, .slice A7 l7.length c7, .int .i64 a8] 25) = w1 at H1 HB1 ⊢
  obtain ⟨q0, q1, q2, q3, q4, q5, q6, q7, q8⟩ := cells9 H1.out
  cases hmb : mayB a0 a1 a2 a3 l4 l5 l6 l7 a8 with
  | false =>
    have HMY := Lib.hid (rule_May_no w1 (HR.out.below HB1.out) hmb)
    clear hm hmb
    go_wp2_with (first | ((with_reducible refine HMY.out.mono ?_); rintro e w2 ⟨rfl, hb2⟩; have HB2 := Lib.hid (HB1.out.trans (hb2.mono HB1.out.size)); clear hb2))
    go_ret2
    exact ⟨rfl, HB2.out⟩
  | true =>
    have HMY := Lib.hid (rule_May_yes w1 (HR.out.below HB1.out) hmb)
    by_cases e1 : start < 0
    · have d1 : decide (start < 0) = true := decide_eq_true e1
      clear hm hmb e1
      go_wp2_with (first | ((with_reducible refine HMY.out.mono ?_); rintro e w2 ⟨rfl, hb2⟩; have HB2 := Lib.hid (HB1.out.trans (hb2.mono HB1.out.size)); clear hb2))
      go_ret2
      exact ⟨rfl, HB2.out⟩
    · have e2 : 158310720 ≤ start := by
        rcases hm with h | h | h
        · rw [hmb] at h; cases h
        · exact absurd h e1
        · exact h
      have d1 : decide (start < 0) = false := decide_eq_false e1
      have d2 : decide (158310720 ≤ start) = true := decide_eq_true e2
      clear hm hmb e1 e2
      go_wp2_with (first | ((with_reducible refine HMY.out.mono ?_); rintro e w2 ⟨rfl, hb2⟩; have HB2 := Lib.hid (HB1.out.trans (hb2.mono HB1.out.size)); clear hb2))
      go_ret2
      exact ⟨rfl, HB2.out⟩
set_option maxHeartbeats 4000000 in
set_option maxRecDepth 100000 in
/-- Between, where nothing is asked of. -/
theorem between_none {a0 a1 a2 a3 a8 : Int} {A4 A5 A6 A7 : Option Addr} {c4 c5 c6 c7 : Nat} {l4 l5 l7 : List Int} {l6 : List S58} (start frm lim most : Int) (w : World) (hR : RC w A4 A5 A6 A7 c4 c5 c6 c7 l4 l5 l7 l6)
    (h : mayB a0 a1 a2 a3 l4 l5 l6 l7 a8 = false ∨ start < 0 ∨ 158310720 ≤ start ∨ (frm < lim ∧ lim ≤ start)) :
    Calls Try.prog 8 #[.agg #[.int .i64 a0, .int .i64 a1, .int .i64 a2, .int .i64 a3, .slice A4 l4.length c4, .slice A5 l5.length c5, .slice A6 l6.length c6, .slice A7 l7.length c7, .int .i64 a8], .int .i64 start, .int .i64 frm, .int .i64 lim, .int .i64 most] w (BetPost w ([], true)) := by
  have HR := Lib.hid hR
  clear hR
  go_enter Try.func8, Try.ntmps8
  go_upto_region 1 with (fail)
  have HX := boxes6 w (.cells #[.int .i64 a0, .int .i64 a1, .int .i64 a2, .int .i64 a3, .slice A4 l4.length c4, .slice A5 l5.length c5, .slice A6 l6.length c6, .slice A7 l7.length c7, .int .i64 a8] 25) (.cells #[.int .i64 frm] 2) (.cells #[.int .i64 lim] 2) (.cells #[.int .i64 most] 3) (.cells #[.slice none 0 0] 28) (.cells #[.bool false] 4)
  generalize ((((((w.alloc (.cells #[.int .i64 a0, .int .i64 a1, .int .i64 a2, .int .i64 a3, .slice A4 l4.length c4, .slice A5 l5.length c5, .slice A6 l6.length c6, .slice A7 l7.length c7, .int .i64 a8] 25)).alloc (.cells #[.int .i64 frm] 2)).alloc (.cells #[.int .i64 lim] 2)).alloc (.cells #[.int .i64 most] 3)).alloc (.cells #[.slice none 0 0] 28)).alloc (.cells #[.bool false] 4)) = w1 at HX ⊢
  obtain ⟨x0, x1, x2, x3, x4, x5, xs, xb⟩ := HX
  have HX4 := Lib.hid x4
  have HX5 := Lib.hid x5
  have HB1 := Lib.hid xb
  have HG1 : Hid (w.heap.size ≤ w.heap.size + 1 + 1 + 1 + 1) := Lib.hid (by omega)
  have HG2 : Hid (w.heap.size ≤ w.heap.size + 1 + 1 + 1 + 1 + 1) := Lib.hid (by omega)
  have HNE : Hid (¬ w.heap.size + 1 + 1 + 1 + 1 = w.heap.size + 1 + 1 + 1 + 1 + 1) := Lib.hid (by omega)
  have X1 := Lib.hid x1
  have X2 := Lib.hid x2
  have X0 := Lib.hid x0
  clear x0 x1 x2 x3 x4 x5 xs xb
  obtain ⟨g0, hg0⟩ : ∃ x, x = w.heap.size := ⟨_, rfl⟩
  have HGG := Lib.hid hg0
  rw [← hg0] at X0 ⊢
  obtain ⟨s1, hs1⟩ : ∃ x, x = g0 + 1 := ⟨_, rfl⟩
  rw [← hg0, ← hs1] at X1 HX4 HX5 X2 HG1 HG2 HNE
  rw [← hs1]
  obtain ⟨s2, hs2⟩ : ∃ x, x = s1 + 1 := ⟨_, rfl⟩
  rw [← hs2] at X2 HX4 HX5 HG1 HG2 HNE
  rw [← hs2]
  obtain ⟨s4, hs4⟩ : ∃ x, x = s2 + 1 + 1 := ⟨_, rfl⟩
  rw [← hs4] at HX4 HX5 HG1 HG2 HNE
  rw [← hs4]
  obtain ⟨s5, hs5⟩ : ∃ x, x = s4 + 1 := ⟨_, rfl⟩
  rw [← hs5] at HX5 HG2 HNE
  rw [← hs5]
  clear hg0 hs1 hs2 hs4 hs5
  obtain ⟨q0, q1, q2, q3, q4, q5, q6, q7, q8⟩ := cells9 X0.out
  have hn45 := HNE.out
  have hn54 : ¬ s5 = s4 := fun e => HNE.out e.symm
  have fin : ∀ w2, Below w1.heap.size w1 w2 → Hid (Boxed w2 s4 28 (.slice none 0 0) ∧ Boxed w2 s5 4 (.bool false) ∧ Below w.heap.size w w2) := fun w2 hb => Lib.hid ⟨keep_below hb HX4.out, keep_below hb HX5.out, HB1.out.trans (hb.mono HB1.out.size)⟩
  have hend : ∀ w2 : World, Hid (Boxed w2 s4 28 (.slice none 0 0) ∧ Boxed w2 s5 4 (.bool false) ∧ Below w.heap.size w w2) → Hid (BetPost w ([], true) (.returned (.tuple #[.slice none 0 0, .bool true])) ((w2.setCell ⟨s4, 0, none⟩ (.slice none 0 0)).setCell ⟨s5, 0, none⟩ (.bool true))) := fun w2 hf => Lib.hid
    ⟨_, rfl, World.ownsRow_nil _ _ _ _, below_two hf.out.2.2 (by rw [← HGG.out]; exact HG1.out) (by rw [← HGG.out]; exact HG2.out)⟩
  by_cases hw : mayB a0 a1 a2 a3 l4 l5 l6 l7 a8 = false ∨ start < 0 ∨ 158310720 ≤ start
  · have HWN := Lib.hid (walk_no start w1 (HR.out.below HB1.out) hw)
    clear h hw
    go_wp2_with (first | ((with_reducible refine HWN.out.mono ?_); rintro e w2 ⟨rfl, hb2⟩; have HF := fin _ hb2; have c4 := HF.out.1.cell; have f4 := HF.out.1.frozen; have c5 := HF.out.2.1.cell; have f5 := HF.out.2.1.frozen; clear hb2))
    have r4 := ((HF.out.1.set (.slice none 0 0)).other hn45 (.bool true)).cell
    have r5 := ((HF.out.2.1.other hn54 (.slice none 0 0)).set (.bool true)).cell
    refine bodyPost_ret (v := .tuple #[.slice none 0 0, .bool true]) ?_ rfl (hend _ HF).out
    simp only [results, Try.f8]
    simp [go_sem, r4, r5]
  · have hm : mayB a0 a1 a2 a3 l4 l5 l6 l7 a8 = true := by
      cases hx : mayB a0 a1 a2 a3 l4 l5 l6 l7 a8 with
      | true => rfl
      | false => exact absurd (.inl hx) hw
    have hs0 : 0 ≤ start ∧ start < 158310720 := by
      constructor
      · by_cases hx : start < 0
        · exact absurd (.inr (.inl hx)) hw
        · omega
      · by_cases hx : 158310720 ≤ start
        · exact absurd (.inr (.inr hx)) hw
        · omega
    have hl : frm < lim ∧ lim ≤ start := by
      rcases h with h | h | h | h
      · exact absurd (.inl h) hw
      · exact absurd (.inr (.inl h)) hw
      · exact absurd (.inr (.inr h)) hw
      · exact h
    obtain ⟨Y, M, D, hd, _, _⟩ := civil_Date_ok (k := 3000) (by decide) (n := start / 1440) (by omega) (by omega)
    have HWY := Lib.hid (walk_yes start w1 (HR.out.below HB1.out) hm hs0.1 hs0.2 hd)
    have d1 : decide (lim ≤ frm) = false := decide_eq_false (by omega)
    have d2 : decide (lim ≤ start) = true := decide_eq_true hl.2
    clear h hw hm hs0 hd hl
    go_upto_region 2 with (first | ((with_reducible refine HWY.out.mono ?_); rintro e w2 ⟨g, rfl, hw2⟩; have HF := fin _ hw2.hb; have p1 := cell_eq (blk_cell (keep_below hw2.hb X1.out) 0) rfl; have p2 := cell_eq (blk_cell (keep_below hw2.hb X2.out) 0) rfl; have c4 := HF.out.1.cell; have f4 := HF.out.1.frozen; have c5 := HF.out.2.1.cell; have f5 := HF.out.2.1.frozen; clear hw2))
    clear q0 q1 q2 q3 q4 q5 q6 q7 q8
    go_wp2
    have r4 := ((HF.out.1.set (.slice none 0 0)).other hn45 (.bool true)).cell
    have r5 := ((HF.out.2.1.other hn54 (.slice none 0 0)).set (.bool true)).cell
    refine bodyPost_ret (v := .tuple #[.slice none 0 0, .bool true]) ?_ rfl (hend _ HF).out
    simp only [results, Try.f8]
    simp [go_sem, r4, r5]
end Go.Proofs.Ytinjbpbpgogdhaa.Own
end
section
namespace Go.Proofs.Ytinjbpbpgogdhaa.Own
open Go.RowKit Go.Shelf Go.Proofs.YtinjbpbpgogdhaaW.PrintWords Go.Proofs.YtinjbpbpgogdhaaW.PrintLast Go.Proofs.YtinjbpbpgogdhaaW.PrintMore
set_option linter.unusedVariables false
set_option linter.unusedSimpArgs false
/-- The period at which the program begins to look. -/
def k0Z (a0 a1 a2 day at' : Int) : Nat := if 0 < a2 ∨ at' / 1440 ≤ day then 0 else (firstZ a0 a1 (at' / 1440 - day)).toNat
theorem k0Z_bd {a0 a1 a2 day at' : Int} (ha1 : 1 ≤ a1) (hd : 0 ≤ day) (h0 : 0 ≤ at') (h1 : at' < 158310720) : ((k0Z a0 a1 a2 day at' : Nat) : Int) * a1 ≤ 110936 := by
  unfold k0Z
  split
  · show (0 : Int) * a1 ≤ _
    omega
  · rename_i hc
    have hg : 0 < at' / 1440 - day ∧ at' / 1440 - day ≤ 109938 := by omega
    generalize at' / 1440 - day = gn at hg
    have hl : 1 ≤ longZ a0 := by unfold longZ; repeat' split <;> omega
    have hla : a1 ≤ longZ a0 * a1 := by
      have := Int.mul_le_mul_of_nonneg_right hl (show 0 ≤ a1 by omega)
      omega
    have hq : gn / (longZ a0 * a1) * (longZ a0 * a1) ≤ gn := Int.ediv_mul_le _ (by omega)
    have hq0 : 0 ≤ gn / (longZ a0 * a1) := Int.ediv_nonneg (by omega) (by omega)
    have hq2 : gn / (longZ a0 * a1) * a1 ≤ gn / (longZ a0 * a1) * (longZ a0 * a1) := Int.mul_le_mul_of_nonneg_left hla hq0
    have hf : ((firstZ a0 a1 gn).toNat : Int) ≤ gn / (longZ a0 * a1) := by
      unfold firstZ
      split <;> omega
    have hq3 : ((firstZ a0 a1 gn).toNat : Int) * a1 ≤ gn / (longZ a0 * a1) * a1 := Int.mul_le_mul_of_nonneg_right hf (by omega)
    omega
set_option maxHeartbeats 4000000 in
set_option maxRecDepth 100000 in
/-- Has, where it says no at once. -/
theorem has_no {a0 a1 a2 a3 a8 : Int} {A4 A5 A6 A7 : Option Addr} {c4 c5 c6 c7 : Nat} {l4 l5 l7 : List Int} {l6 : List S58} (start at' : Int) (w : World) (hR : RC w A4 A5 A6 A7 c4 c5 c6 c7 l4 l5 l7 l6) (h : at' < 0 ∨ 158310720 ≤ at' ∨ mayB a0 a1 a2 a3 l4 l5 l6 l7 a8 = false ∨ start < 0 ∨ 158310720 ≤ start ∨ at' < start) :
    Calls Try.prog 10 #[.agg #[.int .i64 a0, .int .i64 a1, .int .i64 a2, .int .i64 a3, .slice A4 l4.length c4, .slice A5 l5.length c5, .slice A6 l6.length c6, .slice A7 l7.length c7, .int .i64 a8], .int .i64 start, .int .i64 at'] w fun e w' => e = .returned (.bool false) ∧ Below w.heap.size w w' := by
  have HR := Lib.hid hR
  clear hR
  go_enter Try.func10, Try.ntmps10
  go_upto_region 1 with (fail)
  have H1 : Hid ((w.alloc (.cells #[.int .i64 a0, .int .i64 a1, .int .i64 a2, .int .i64 a3, .slice A4 l4.length c4, .slice A5 l5.length c5, .slice A6 l6.length c6, .slice A7 l7.length c7, .int .i64 a8] 25)).heap[w.heap.size]? = some (.cells #[.int .i64 a0, .int .i64 a1, .int .i64 a2, .int .i64 a3, .slice A4 l4.length c4, .slice A5 l5.length c5, .slice A6 l6.length c6, .slice A7 l7.length c7, .int .i64 a8] 25 (0, 0))) := Lib.hid (alloc_blk _ _ _)
  have HB1 : Hid (Below w.heap.size w (w.alloc (.cells #[.int .i64 a0, .int .i64 a1, .int .i64 a2, .int .i64 a3, .slice A4 l4.length c4, .slice A5 l5.length c5, .slice A6 l6.length c6, .slice A7 l7.length c7, .int .i64 a8] 25))) := Lib.hid below_new_
  obtain ⟨g1, hg1⟩ : ∃ x, x = w.heap.size := ⟨_, rfl⟩
  rw [← hg1] at H1 ⊢
  clear hg1
  generalize w.alloc (.cells #[.int .i64 a0, .int .i64 a1, .int .i64 a2, .int .i64 a3, .slice A4 l4.length c4, .slice A5 l5.length c5, .slice A6 l6.length c6, .slice A7 l7.length c7, .int .i64 a8] 25) = w1 at H1 HB1 ⊢
  obtain ⟨q0, q1, q2, q3, q4, q5, q6, q7, q8⟩ := cells9 H1.out
  by_cases e1 : at' < 0
  · have d1 : decide (at' < 0) = true := decide_eq_true e1
    clear h e1
    go_wp2
    go_ret
    exact ⟨rfl, HB1.out⟩
  · by_cases e2 : 158310720 ≤ at'
    · have d1 : decide (at' < 0) = false := decide_eq_false e1
      have d2 : decide (158310720 ≤ at') = true := decide_eq_true e2
      clear h e1 e2
      go_wp2
      go_ret
      exact ⟨rfl, HB1.out⟩
    · have HBN : Hid (Calls Try.prog 8 #[.agg #[.int .i64 a0, .int .i64 a1, .int .i64 a2, .int .i64 a3, .slice A4 l4.length c4, .slice A5 l5.length c5, .slice A6 l6.length c6, .slice A7 l7.length c7, .int .i64 a8], .int .i64 start, .int .i64 at', .int .i64 (at' + 1), .int .i64 1] w1 (BetPost w1 ([], true))) := Lib.hid (between_none start at' (at' + 1) 1 w1 (HR.out.below HB1.out) (by
        rcases h with h | h | h | h | h | h
        · exact absurd h e1
        · exact absurd h e2
        · exact .inl h
        · exact .inr (.inl h)
        · exact .inr (.inr (.inl h))
        · exact .inr (.inr (.inr ⟨by omega, by omega⟩))))
      have d1 : decide (at' < 0) = false := decide_eq_false e1
      have d2 : decide (158310720 ≤ at') = false := decide_eq_false e2
      have w1' : wrap64 (at' + 1) = at' + 1 := IntWalk.wrap64_in _ (by omega)
      clear h e1 e2
      go_wp2_with (first | ((with_reducible refine HBN.out.mono ?_); rintro e w2 ⟨va, rfl, hown, hb2⟩; obtain ⟨Aa, ca, rfl⟩ := owns_slice hown; have HB2 := Lib.hid (HB1.out.trans (hb2.mono HB1.out.size)); clear hown hb2))
      go_ret
      exact ⟨rfl, HB2.out⟩
set_option maxHeartbeats 4000000 in
set_option maxRecDepth 100000 in
/-- Has, where it looks. -/
theorem has_yes {a0 a1 a2 a3 a8 : Int} {A4 A5 A6 A7 : Option Addr} {c4 c5 c6 c7 : Nat} {l4 l5 l7 : List Int} {l6 : List S58} {Y M D : Int} (start at' : Int) (T : List Int) (w : World) (hR : RC w A4 A5 A6 A7 c4 c5 c6 c7 l4 l5 l7 l6) (h0 : 0 ≤ at') (h1 : at' < 158310720) (hm : mayB a0 a1 a2 a3 l4 l5 l6 l7 a8 = true) (hs0 : 0 ≤ start) (hs1 : start < 158310720) (hs : start ≤ at')
    (hd : civil_Date.f 3000 (start / 1440) = some (Y, M, D, true)) (hY : 1900 ≤ Y ∧ Y ≤ 2200 ∧ 1 ≤ M ∧ M ≤ 12)
    (hT : T = timesL a0 a1 a2 a3 a8 l4 l7 (dayB a0 l4 l5 l6 (start / 1440) M D) (start / 1440) Y M (start % 1440) (k0Z a0 a1 a2 (start / 1440) at')) :
    Calls Try.prog 10 #[.agg #[.int .i64 a0, .int .i64 a1, .int .i64 a2, .int .i64 a3, .slice A4 l4.length c4, .slice A5 l5.length c5, .slice A6 l6.length c6, .slice A7 l7.length c7, .int .i64 a8], .int .i64 start, .int .i64 at'] w fun e w' => e = .returned (.bool (((bet at' (at' + 1) 1 [] T).1.length : Int) == 1)) ∧ Below w.heap.size w w' := by
  have hmb := may_bd hm
  have HBN : Hid (∀ W, Below w.heap.size w W → Calls Try.prog 8 #[.agg #[.int .i64 a0, .int .i64 a1, .int .i64 a2, .int .i64 a3, .slice A4 l4.length c4, .slice A5 l5.length c5, .slice A6 l6.length c6, .slice A7 l7.length c7, .int .i64 a8], .int .i64 start, .int .i64 at', .int .i64 (at' + 1), .int .i64 1] W (BetPost W (bet at' (at' + 1) 1 [] T))) := Lib.hid (fun W hW => by
    refine between_any (k0Z a0 a1 a2 (start / 1440) at') T start at' (at' + 1) 1 W (hR.below hW) hm hs0 hs1 hd hY (k0Z_bd hmb.2.2.1 (by omega) h0 h1) (fun g W' hW' => ?_) hT (by omega) (by omega) h0 (by omega)
    by_cases hc : 0 < a2 ∨ at' / 1440 ≤ start / 1440
    · have e : k0Z a0 a1 a2 (start / 1440) at' = 0 := if_pos hc
      rw [e]
      exact (first_zero at' hW' h0 (by omega) (by omega) (by omega) hc).mono (fun e w' h => ⟨h.1, by rw [h.2]; exact Below.refl _ _⟩)
    · have e : ((k0Z a0 a1 a2 (start / 1440) at' : Nat) : Int) = firstZ a0 a1 (at' / 1440 - start / 1440) := by
        unfold k0Z
        rw [if_neg hc]
        refine Int.toNat_of_nonneg ?_
        unfold firstZ
        split <;> omega
      rw [e]
      exact first_pos at' hW' h0 (by omega) (by omega) (by omega) ⟨hmb.1, hmb.2.1⟩ ⟨hmb.2.2.1, hmb.2.2.2.1⟩ (fun h => hc (.inl h)) (by
        rcases Int.lt_or_le (start / 1440) (at' / 1440) with h | h
        · exact h
        · exact absurd (.inr h) hc))
  obtain ⟨r, hr⟩ : ∃ r, r = bet at' (at' + 1) 1 [] T := ⟨_, rfl⟩
  rw [← hr] at HBN ⊢
  have d1 : decide (at' < 0) = false := decide_eq_false (by omega)
  have d2 : decide (158310720 ≤ at') = false := decide_eq_false (by omega)
  have w1' : wrap64 (at' + 1) = at' + 1 := IntWalk.wrap64_in _ (by omega)
  clear hr hT hd hY hm hmb hR h0 h1 hs0 hs1 hs
  go_enter Try.func10, Try.ntmps10
  go_upto_region 1 with (fail)
  have H1 : Hid ((w.alloc (.cells #[.int .i64 a0, .int .i64 a1, .int .i64 a2, .int .i64 a3, .slice A4 l4.length c4, .slice A5 l5.length c5, .slice A6 l6.length c6, .slice A7 l7.length c7, .int .i64 a8] 25)).heap[w.heap.size]? = some (.cells #[.int .i64 a0, .int .i64 a1, .int .i64 a2, .int .i64 a3, .slice A4 l4.length c4, .slice A5 l5.length c5, .slice A6 l6.length c6, .slice A7 l7.length c7, .int .i64 a8] 25 (0, 0))) := Lib.hid (alloc_blk _ _ _)
  have HB1 : Hid (Below w.heap.size w (w.alloc (.cells #[.int .i64 a0, .int .i64 a1, .int .i64 a2, .int .i64 a3, .slice A4 l4.length c4, .slice A5 l5.length c5, .slice A6 l6.length c6, .slice A7 l7.length c7, .int .i64 a8] 25))) := Lib.hid below_new_
  obtain ⟨g1, hg1⟩ : ∃ x, x = w.heap.size := ⟨_, rfl⟩
  rw [← hg1] at H1 ⊢
  clear hg1
  generalize w.alloc (.cells #[.int .i64 a0, .int .i64 a1, .int .i64 a2, .int .i64 a3, .slice A4 l4.length c4, .slice A5 l5.length c5, .slice A6 l6.length c6, .slice A7 l7.length c7, .int .i64 a8] 25) = w1 at H1 HB1 ⊢
  obtain ⟨q0, q1, q2, q3, q4, q5, q6, q7, q8⟩ := cells9 H1.out
  go_wp2_with (first | ((with_reducible refine (HBN.out _ HB1.out).mono ?_); rintro e w2 ⟨va, rfl, hown, hb2⟩; obtain ⟨Aa, ca, rfl⟩ := owns_slice hown; have HB2 := Lib.hid (HB1.out.trans (hb2.mono HB1.out.size)); clear hown hb2))
  go_ret
  exact ⟨rfl, HB2.out⟩
end Go.Proofs.Ytinjbpbpgogdhaa.Own
end
section
namespace Go.Proofs.Ytinjbpbpgogdhaa.Own
open Go.RowKit Go.Shelf Go.Proofs.YtinjbpbpgogdhaaW.PrintWords Go.Proofs.YtinjbpbpgogdhaaW.PrintLast Go.Proofs.YtinjbpbpgogdhaaW.PrintMore
set_option linter.unusedVariables false
set_option linter.unusedSimpArgs false
theorem bdN {B : Nat} {a w : World} (h : Below B a w) (n : Nat) : Below B a (w.drewN n) := h.trans ⟨rfl, rfl, rfl, Nat.le_refl _, fun _ _ => rfl⟩
set_option maxHeartbeats 4000000 in
set_option maxRecDepth 100000 in
/-- ref10.has. -/
theorem rhas_any (W : World) (l : List Int) (A : Option Addr) (c : Nat) (a : Int) (hC : (Kd.int .i64).C W A l.length l) (hl : l.length ≤ 10000) :
    Calls Try.prog 31 #[.slice A l.length c, .int .i64 a] W fun e w' => e = .returned (.bool (hasI l a)) ∧ w' = W := by
  have HC := Lib.hid hC
  clear hC
  go_enter Try.func31, Try.ntmps31
  go_wp2
  go_loopw [8] (fun i' wr => ∃ j : Int, 0 ≤ j ∧ j ≤ (l.length : Int) ∧ i' = .int .i64 j ∧ wr = W ∧ Hid (∀ q : Nat, (q : Int) < j → rd l (q : Int) ≠ a)) (fun i' _ => l.length - (intOf i').toNat)
  case atStart => exact ⟨0, Int.le_refl _, by omega, rfl, rfl, Lib.hid (fun q hq => by omega)⟩
  case round =>
  obtain ⟨j, hj0, hj1, rfl, rfl, HQ⟩ := hrel
  by_cases hlt : j < (l.length : Int)
  · obtain ⟨x, hx⟩ : ∃ x, x = rd l j := ⟨_, rfl⟩
    obtain ⟨ad, rfl, hc1⟩ := Kd.at_int HC.out j hj0 hlt
    rw [← hx] at hc1
    have HX := Lib.hid hx
    clear hx
    have hjn : ((j.toNat : Nat) : Int) = j := Int.toNat_of_nonneg hj0
    have HJ := Lib.hid hjn
    clear hjn
    by_cases he : x = a
    · have HR : Hid (hasI l a = true) := Lib.hid (decide_eq_true ⟨j.toNat, by have := HJ.out; omega, by rw [HJ.out, ← HX.out, he]⟩)
      have he2 : (x == a) = true := by rw [he]; exact beq_self_eq_true _
      go_wp2
      go_ret
      rw [HR.out]
      exact ⟨rfl, rfl⟩
    · have he2 : (x == a) = false := by rw [Bool.eq_false_iff]; intro h; exact he (eq_of_beq h)
      have hw1 : wrap64 (j + 1) = j + 1 := IntWalk.wrap64_in _ (by omega)
      have HQ2 : Hid (∀ q : Nat, (q : Int) < j + 1 → rd l (q : Int) ≠ a) := Lib.hid (fun q hq => by
        by_cases e : (q : Int) = j
        · rw [e, ← HX.out]; exact he
        · exact HQ.out q (by clear hw1; omega))
      go_wp2
      refine ⟨⟨j + 1, by clear hw1; omega, by clear hw1; omega, rfl, trivial, HQ2⟩, ?_⟩
      clear hw1
      simp only [intOf]
      omega
  · have HR : Hid (hasI l a = false) := Lib.hid (decide_eq_false (fun ⟨i, hi, h⟩ => HQ.out i (by omega) h))
    go_wp2
    go_ret
    rw [HR.out]
    exact ⟨rfl, rfl⟩
set_option maxHeartbeats 8000000 in
set_option maxRecDepth 100000 in
/-- ref10.nth. -/
theorem rnth_any (W : World) (l : List S58) (A : Option Addr) (c : Nat) (N y m d wd : Int) (hC : Kd.C k58 W A l.length l) (hl : l.length ≤ 10000) (hd : 1 ≤ d) (hdl : d ≤ len y m) :
    Calls Try.prog 32 #[.slice A l.length c, .agg #[.int .i64 N, .int .i64 y, .int .i64 m, .int .i64 d, .int .i64 wd]] W fun e w' => e = .returned (.bool (anyD l (fun x => nthOne x d (len y m) wd))) ∧ Below W.heap.size W w' := by
  have HC := Lib.hid hC
  have hlen := len_bd y m
  have HLN := Lib.hid (fun W => vespersref01_Length.calls 5 y m _ W (ref_Length_f (by decide) y m))
  obtain ⟨long, hlong⟩ : ∃ x, x = len y m := ⟨_, rfl⟩
  rw [← hlong] at HLN hdl hlen ⊢
  clear hC hlong
  go_enter Try.func32, Try.ntmps32
  go_upto_region 1 with (fail)
  have H1 : Hid ((W.alloc (.cells #[.int .i64 N, .int .i64 y, .int .i64 m, .int .i64 d, .int .i64 wd] 47)).heap[W.heap.size]? = some (.cells #[.int .i64 N, .int .i64 y, .int .i64 m, .int .i64 d, .int .i64 wd] 47 (0, 0))) := Lib.hid (alloc_blk _ _ _)
  have HB1 : Hid (Below W.heap.size W (W.alloc (.cells #[.int .i64 N, .int .i64 y, .int .i64 m, .int .i64 d, .int .i64 wd] 47))) := Lib.hid below_new_
  obtain ⟨g, hg⟩ : ∃ x, x = W.heap.size := ⟨_, rfl⟩
  rw [← hg] at H1 ⊢
  clear hg
  generalize W.alloc (.cells #[.int .i64 N, .int .i64 y, .int .i64 m, .int .i64 d, .int .i64 wd] 47) = w1 at H1 HB1 ⊢
  have q1 := cell_eq (blk_cell H1.out 1) rfl
  have q2 := cell_eq (blk_cell H1.out 2) rfl
  have q3 := cell_eq (blk_cell H1.out 3) rfl
  have q4 := cell_eq (blk_cell H1.out 4) rfl
  go_upto_region 3 with (first | ((with_reducible refine (HLN.out _).mono ?_); rintro e w2 ⟨rfl, hb2⟩; have H2 := Lib.hid (keep_below hb2 H1.out); have HB2 := Lib.hid (HB1.out.trans (hb2.mono HB1.out.size)); clear hb2))
  clear q1 q2 q3 q4
  have q3 := cell_eq (blk_cell H2.out 3) rfl
  have q4 := cell_eq (blk_cell H2.out 4) rfl
  have HC2 := Lib.hid (Kd.C_below HC.out HB2.out)
  go_wp2
  go_loopw [7, 6] (fun k' u' wr => ∃ i : Int, 0 ≤ i ∧ 7 * i < d + 7 ∧ k' = .int .i64 (d - 7 * i) ∧ u' = .int .i64 i ∧ wr = w2) (fun k' _ _ => (intOf k' + 7).toNat)
  case atStart => exact ⟨0, by omega, by omega, by rw [Int.mul_zero, Int.sub_zero], rfl, rfl⟩
  case round =>
  obtain ⟨i, hi0, hi1, rfl, rfl, rfl⟩ := hrel
  obtain ⟨kv, hkv⟩ : ∃ x, x = d - 7 * i := ⟨_, rfl⟩
  have HKV := Lib.hid hkv
  have hib : i ≤ 31 := by omega
  have hkb : -7 ≤ kv ∧ kv ≤ 31 := by omega
  rw [← hkv]
  clear hkv
  by_cases hlt : 1 ≤ kv
  · have hw1 : wrap64 (i + 1) = i + 1 := IntWalk.wrap64_in _ (by omega)
    have hw2 : wrap64 (kv - 7) = kv - 7 := by clear hw1; exact IntWalk.wrap64_in _ (by omega)
    go_wp2
    have hk := HKV.out
    refine ⟨⟨i + 1, by clear hw1 hw2; omega, by clear hw1 hw2; omega, by congr 1; clear hw1 hw2; omega, rfl, trivial⟩, ?_⟩
    clear hw1 hw2
    simp only [intOf]
    omega
  · obtain ⟨up, hup⟩ : ∃ x, x = (d - 1) / 7 + 1 := ⟨_, rfl⟩
    have hiu : i = up := by have hk := HKV.out; omega
    rw [hiu]
    have HUP := Lib.hid hup
    have hub : 1 ≤ up ∧ up ≤ 31 := by omega
    clear hiu hup hi0 hi1 hib HKV
    go_wp2
    go_loopw [9, 8] (fun k' u' wr2 => ∃ i : Int, 0 ≤ i ∧ d + 7 * i ≤ long + 7 ∧ k' = .int .i64 (d + 7 * i) ∧ u' = .int .i64 i ∧ wr2 = wr) (fun k' _ _ => (long + 8 - intOf k').toNat)
    case atStart => exact ⟨0, by omega, by omega, by rw [Int.mul_zero, Int.add_zero], rfl, rfl⟩
    case round =>
    obtain ⟨i, hi0, hi1, rfl, rfl, rfl⟩ := hrel
    obtain ⟨kv, hkv⟩ : ∃ x, x = d + 7 * i := ⟨_, rfl⟩
    have HKV := Lib.hid hkv
    have hib : i ≤ 31 := by omega
    have hkb : 1 ≤ kv ∧ kv ≤ 38 := by omega
    rw [← hkv]
    clear hkv
    by_cases hlt : kv ≤ long
    · have hw1 : wrap64 (i + 1) = i + 1 := IntWalk.wrap64_in _ (by omega)
      have hw2 : wrap64 (kv + 7) = kv + 7 := by clear hw1; exact IntWalk.wrap64_in _ (by omega)
      go_wp2
      have hk := HKV.out
      refine ⟨⟨i + 1, by clear hw1 hw2; omega, by clear hw1 hw2; omega, by congr 1; clear hw1 hw2; omega, rfl, trivial⟩, ?_⟩
      clear hw1 hw2
      simp only [intOf]
      omega
    · obtain ⟨dn, hdn⟩ : ∃ x, x = (long - d) / 7 + 1 := ⟨_, rfl⟩
      have hiu : i = dn := by have hk := HKV.out; omega
      rw [hiu]
      have HDN := Lib.hid hdn
      have hdb : 1 ≤ dn ∧ dn ≤ 31 := by omega
      clear hiu hdn hi0 hi1 hib HKV
      have hw2 : wrap64 (-dn) = -dn := IntWalk.wrap64_in _ (by omega)
      clear q3
      have q4 := cell_eq (blk_cell H2.out 4) rfl
      go_wp2
      go_loopw [39] (fun i' wr3 => ∃ j : Int, 0 ≤ j ∧ j ≤ (l.length : Int) ∧ i' = .int .i64 j ∧ Hid (Below W.heap.size W wr3 ∧ wr3.heap[g]? = some (.cells #[.int .i64 N, .int .i64 y, .int .i64 m, .int .i64 d, .int .i64 wd] 47 (0, 0))) ∧ Hid (∀ q : Nat, (q : Int) < j → nthOne (rd_T58 l (q : Int)) d long wd = false)) (fun i' _ => l.length - (intOf i').toNat)
      case atStart => exact ⟨0, Int.le_refl _, by clear hw2; omega, rfl, Lib.hid ⟨HB2.out, H2.out⟩, Lib.hid (fun q hq => by clear hw2; omega)⟩
      case round =>
      clear q4
      obtain ⟨j, hj0, hj1, rfl, HBX, HQ⟩ := hrel
      have q4 := cell_eq (blk_cell HBX.out.2 4) rfl
      by_cases hlt : j < (l.length : Int)
      · obtain ⟨x, hx⟩ : ∃ x, x = rd_T58 l j := ⟨_, rfl⟩
        obtain ⟨ad, rfl, hc1, hc2⟩ := at_T58 (Kd.C_below HC.out HBX.out.1) j hj0 hlt
        rw [← hx] at hc1 hc2
        have HX := Lib.hid hx
        have hjn : ((j.toNat : Nat) : Int) = j := Int.toNat_of_nonneg hj0
        have HJ := Lib.hid hjn
        clear hx hjn
        have hw1 : wrap64 (j + 1) = j + 1 := IntWalk.wrap64_in _ (by clear hw2; omega)
        obtain ⟨x0, x1⟩ := x
        dsimp only at hc1 hc2
        by_cases e1 : x1 = wd
        · have b1 : (x1 == wd) = true := by rw [e1]; exact beq_self_eq_true _
          have E1 := Lib.hid e1
          clear e1
          by_cases e2 : x0 = 0
          · have b2 : (x0 == 0) = true := by rw [e2]; exact beq_self_eq_true _
            have E2 := Lib.hid e2
            clear e2
            have HNX : Hid (anyD l (fun x => nthOne x d long wd) = true) := Lib.hid (decide_eq_true ⟨j.toNat, by clear hw1 hw2; omega, by rw [HJ.out, ← HX.out]; unfold nthOne; rw [← HUP.out, ← HDN.out]; simp [E1.out, E2.out]⟩)
            go_upto_region 15 with (fail)
            try simp only [List.append_eq, List.cons_append, List.nil_append]
            go_quiet (fail)
            go_wp2
            go_ret
            rw [HNX.out]
            exact ⟨rfl, bdN HBX.out.1 _⟩
          · have b2 : (x0 == 0) = false := by rw [Bool.eq_false_iff]; intro h; exact e2 (eq_of_beq h)
            have E2 := Lib.hid e2
            clear e2
            by_cases e3 : x0 = up
            · have b3 : (x0 == up) = true := by rw [e3]; exact beq_self_eq_true _
              have E3 := Lib.hid e3
              clear e3
              have HNX : Hid (anyD l (fun x => nthOne x d long wd) = true) := Lib.hid (decide_eq_true ⟨j.toNat, by clear hw1 hw2; omega, by rw [HJ.out, ← HX.out]; unfold nthOne; rw [← HUP.out, ← HDN.out]; simp [E1.out, E2.out, E3.out]⟩)
              go_upto_region 15 with (fail)
              try simp only [List.append_eq, List.cons_append, List.nil_append]
              go_quiet (fail)
              go_wp2
              go_ret
              rw [HNX.out]
              exact ⟨rfl, bdN HBX.out.1 _⟩
            · have b3 : (x0 == up) = false := by rw [Bool.eq_false_iff]; intro h; exact e3 (eq_of_beq h)
              have E3 := Lib.hid e3
              clear e3
              by_cases e4 : x0 = -dn
              · have b4 : (x0 == -dn) = true := by rw [e4]; exact beq_self_eq_true _
                have E4 := Lib.hid e4
                clear e4
                have HNX : Hid (anyD l (fun x => nthOne x d long wd) = true) := Lib.hid (decide_eq_true ⟨j.toNat, by clear hw1 hw2; omega, by rw [HJ.out, ← HX.out]; unfold nthOne; rw [← HUP.out, ← HDN.out]; simp [E1.out, E2.out, E3.out, E4.out]⟩)
                go_upto_region 15 with (fail)
                try simp only [List.append_eq, List.cons_append, List.nil_append]
                go_quiet (fail)
                go_wp2
                go_ret
                rw [HNX.out]
                exact ⟨rfl, bdN HBX.out.1 _⟩
              · have b4 : (x0 == -dn) = false := by rw [Bool.eq_false_iff]; intro h; exact e4 (eq_of_beq h)
                have E4 := Lib.hid e4
                clear e4
                have HNX : Hid (nthOne (rd_T58 l j) d long wd = false) := Lib.hid (by rw [← HX.out]; unfold nthOne; rw [← HUP.out, ← HDN.out]; simp [E1.out, E2.out, E3.out, E4.out])
                have HQ2 : Hid (∀ q : Nat, (q : Int) < j + 1 → nthOne (rd_T58 l (q : Int)) d long wd = false) := Lib.hid (fun q hq => by
                  by_cases e : (q : Int) = j
                  · rw [e]; exact HNX.out
                  · exact HQ.out q (by clear hw1 hw2; omega))
                go_upto_region 15 with (fail)
                try simp only [List.append_eq, List.cons_append, List.nil_append]
                go_quiet (fail)
                go_wp2
                refine ⟨⟨j + 1, by clear hw1 hw2; omega, by clear hw1 hw2; omega, rfl, Lib.hid ⟨bdN HBX.out.1 _, HBX.out.2⟩, HQ2⟩, ?_⟩
                clear hw1 hw2
                simp only [intOf]
                omega
        · have b1 : (x1 == wd) = false := by rw [Bool.eq_false_iff]; intro h; exact e1 (eq_of_beq h)
          have E1 := Lib.hid e1
          clear e1
          have HNX : Hid (nthOne (rd_T58 l j) d long wd = false) := Lib.hid (by rw [← HX.out]; unfold nthOne; rw [← HUP.out, ← HDN.out]; simp [E1.out])
          have HQ2 : Hid (∀ q : Nat, (q : Int) < j + 1 → nthOne (rd_T58 l (q : Int)) d long wd = false) := Lib.hid (fun q hq => by
            by_cases e : (q : Int) = j
            · rw [e]; exact HNX.out
            · exact HQ.out q (by clear hw1 hw2; omega))
          go_upto_region 15 with (fail)
          try simp only [List.append_eq, List.cons_append, List.nil_append]
          go_quiet (fail)
          go_wp2
          refine ⟨⟨j + 1, by clear hw1 hw2; omega, by clear hw1 hw2; omega, rfl, Lib.hid ⟨bdN HBX.out.1 _, HBX.out.2⟩, HQ2⟩, ?_⟩
          clear hw1 hw2
          simp only [intOf]
          omega
      · have HR : Hid (anyD l (fun x => nthOne x d long wd) = false) := Lib.hid (decide_eq_false (fun ⟨i, hi, h⟩ => by
          have h2 := HQ.out i (by clear hw2; omega)
          exact absurd (h2.symm.trans h) (by decide)))
        go_wp2
        go_ret
        rw [HR.out]
        exact ⟨rfl, HBX.out.1⟩
end Go.Proofs.Ytinjbpbpgogdhaa.Own
end
section
namespace Go.Proofs.Ytinjbpbpgogdhaa.Own
open Go.RowKit Go.Shelf Go.Proofs.YtinjbpbpgogdhaaW.PrintWords Go.Proofs.YtinjbpbpgogdhaaW.PrintLast Go.Proofs.YtinjbpbpgogdhaaW.PrintMore
set_option linter.unusedVariables false
set_option linter.unusedSimpArgs false
theorem cells5 {W : World} {g : Nat} {a b c d e : Value} {t : TypeId} (h : W.heap[g]? = some (.cells #[a, b, c, d, e] t (0, 0))) : W.cell? ⟨g, 0, none⟩ = some a ∧ W.cell? ⟨g, 1, none⟩ = some b ∧ W.cell? ⟨g, 2, none⟩ = some c ∧ W.cell? ⟨g, 3, none⟩ = some d ∧ W.cell? ⟨g, 4, none⟩ = some e :=
  ⟨cell_eq (blk_cell h 0) rfl, cell_eq (blk_cell h 1) rfl, cell_eq (blk_cell h 2) rfl, cell_eq (blk_cell h 3) rfl, cell_eq (blk_cell h 4) rfl⟩
theorem boxes3 (w : World) (o1 o2 o3 : Obj) : (((w.alloc o1).alloc o2).alloc o3).heap[w.heap.size]? = some o1 ∧ (((w.alloc o1).alloc o2).alloc o3).heap[w.heap.size + 1]? = some o2 ∧ (((w.alloc o1).alloc o2).alloc o3).heap[w.heap.size + 1 + 1]? = some o3 ∧ Below w.heap.size w (((w.alloc o1).alloc o2).alloc o3) := by
  have h1 : ∀ (W : World) (o : Obj), (W.alloc o).heap[W.heap.size]? = some o := fun W o => World.alloc_heap_new W o
  have sz : ∀ (W : World) (o : Obj), (W.alloc o).heap.size = W.heap.size + 1 := fun W o => alloc_size W o
  have e1 := h1 w o1
  have e2 := h1 (w.alloc o1) o2
  have e3 := h1 ((w.alloc o1).alloc o2) o3
  simp only [sz] at e2 e3
  refine ⟨keep_alloc (keep_alloc e1 _) _, keep_alloc e2 _, e3, ?_⟩
  refine ((below_new_.alloc ?_ _).alloc ?_ _) <;> simp only [sz] <;> omega
/-- The period's number of a day, told. -/
def perZ (a0 a8 sN sy sm sW N y m : Int) : Int := if a0 = 1 then N - sN else if a0 = 2 then (N - sN + (sW - a8 + 7) % 7) / 7 else if a0 = 3 then 12 * (y - sy) + m - sm else y - sy
set_option maxHeartbeats 4000000 in
set_option maxRecDepth 100000 in
/-- ref10.period. -/
theorem rperiod_any {a0 a1 a2 a3 a8 : Int} {A4 A5 A6 A7 : Option Addr} {c4 c5 c6 c7 : Nat} {l4 l5 l7 : List Int} {l6 : List S58} (sN sy sm sd sW N y m d wd : Int) (w : World) (ha : 1 ≤ a0 ∧ a0 ≤ 4) (h8 : 0 ≤ a8 ∧ a8 ≤ 6) (hW : 0 ≤ sW ∧ sW ≤ 6) (hN : 0 ≤ N ∧ N ≤ 200000) (hsN : 0 ≤ sN ∧ sN ≤ 200000) (hp0 : a0 = 2 → 0 ≤ N - sN + (sW - a8 + 7) % 7) (hy : 0 ≤ y ∧ y ≤ 10000) (hsy : 0 ≤ sy ∧ sy ≤ 10000) (hm : 0 ≤ m ∧ m ≤ 100) (hsm : 0 ≤ sm ∧ sm ≤ 100) :
    Calls Try.prog 20 #[.agg #[.int .i64 a0, .int .i64 a1, .int .i64 a2, .int .i64 a3, .slice A4 l4.length c4, .slice A5 l5.length c5, .slice A6 l6.length c6, .slice A7 l7.length c7, .int .i64 a8], .agg #[.int .i64 sN, .int .i64 sy, .int .i64 sm, .int .i64 sd, .int .i64 sW], .agg #[.int .i64 N, .int .i64 y, .int .i64 m, .int .i64 d, .int .i64 wd]] w fun e w' => e = .returned (.int .i64 (perZ a0 a8 sN sy sm sW N y m)) ∧ Below w.heap.size w w' := by
  obtain ⟨r, hr⟩ : ∃ r, r = perZ a0 a8 sN sy sm sW N y m := ⟨_, rfl⟩
  rw [← hr]
  unfold perZ at hr
  have HR := Lib.hid hr
  clear hr
  go_enter Try.func20, Try.ntmps20
  go_upto_region 1 with (fail)
  have HX := boxes3 w (.cells #[.int .i64 a0, .int .i64 a1, .int .i64 a2, .int .i64 a3, .slice A4 l4.length c4, .slice A5 l5.length c5, .slice A6 l6.length c6, .slice A7 l7.length c7, .int .i64 a8] 25) (.cells #[.int .i64 sN, .int .i64 sy, .int .i64 sm, .int .i64 sd, .int .i64 sW] 47) (.cells #[.int .i64 N, .int .i64 y, .int .i64 m, .int .i64 d, .int .i64 wd] 47)
  generalize (((w.alloc (.cells #[.int .i64 a0, .int .i64 a1, .int .i64 a2, .int .i64 a3, .slice A4 l4.length c4, .slice A5 l5.length c5, .slice A6 l6.length c6, .slice A7 l7.length c7, .int .i64 a8] 25)).alloc (.cells #[.int .i64 sN, .int .i64 sy, .int .i64 sm, .int .i64 sd, .int .i64 sW] 47)).alloc (.cells #[.int .i64 N, .int .i64 y, .int .i64 m, .int .i64 d, .int .i64 wd] 47)) = w1 at HX ⊢
  obtain ⟨hx1, hx2, hx3, hxb⟩ := HX
  have H1 := Lib.hid hx1
  have H2 := Lib.hid hx2
  have H3 := Lib.hid hx3
  have HB1 := Lib.hid hxb
  clear hx1 hx2 hx3 hxb
  obtain ⟨g1, hg1⟩ : ∃ x, x = w.heap.size := ⟨_, rfl⟩
  rw [← hg1] at H1 H2 H3 ⊢
  obtain ⟨g2, hg2⟩ : ∃ x, x = g1 + 1 := ⟨_, rfl⟩
  rw [← hg2] at H2 H3 ⊢
  obtain ⟨g3, hg3⟩ : ∃ x, x = g2 + 1 := ⟨_, rfl⟩
  rw [← hg3] at H3 ⊢
  clear hg1 hg2 hg3
  obtain ⟨q0, q1, q2, q3, q4, q5, q6, q7, q8⟩ := cells9 H1.out
  obtain ⟨s0, s1, s2, s3, s4⟩ := cells5 H2.out
  obtain ⟨d0, d1, d2, d3, d4⟩ := cells5 H3.out
  clear q1 q2 q3 q4 q5 q6 q7
  by_cases e1 : a0 = 1
  · subst e1
    have hr := HR.out
    rw [if_pos rfl] at hr
    have w1' : wrap64 (N - sN) = N - sN := IntWalk.wrap64_in _ (by omega)
    have HH := Lib.hid hr
    clear hr ha hp0
    go_wp2
    go_ret
    rw [HH.out]
    exact ⟨rfl, HB1.out⟩
  · by_cases e2 : a0 = 2
    · subst e2
      have hp := hp0 rfl
      clear hp0
      have hr := HR.out
      rw [if_neg (by decide), if_pos rfl] at hr
      obtain ⟨iw, hiw⟩ : ∃ x, x = (sW - a8 + 7) % 7 := ⟨_, rfl⟩
      rw [← hiw] at hr hp
      have hib : 0 ≤ iw ∧ iw ≤ 6 := by omega
      have k1 : wrap64 (sW - a8) = sW - a8 := IntWalk.wrap64_in _ (by omega)
      have k2 : wrap64 (sW - a8 + 7) = sW - a8 + 7 := by clear k1; exact IntWalk.wrap64_in _ (by omega)
      have k3 : Int.tmod (sW - a8 + 7) 7 = iw := by clear k1 k2; rw [hiw]; exact Int.tmod_eq_emod_of_nonneg (by omega)
      have k4 : wrap64 iw = iw := by clear k1 k2 k3; exact IntWalk.wrap64_in _ (by omega)
      have k5 : wrap64 (N - sN) = N - sN := by clear k1 k2 k3 k4; exact IntWalk.wrap64_in _ (by omega)
      have k6 : wrap64 (N - sN + iw) = N - sN + iw := by clear k1 k2 k3 k4 k5; exact IntWalk.wrap64_in _ (by omega)
      obtain ⟨qq, hqq⟩ : ∃ x, x = (N - sN + iw) / 7 := ⟨_, rfl⟩
      have hqb : 0 ≤ qq ∧ qq ≤ 300000 := by clear k1 k2 k3 k4 k5 k6; omega
      have k7 : Int.tdiv (N - sN + iw) 7 = qq := by rw [hqq]; exact Int.tdiv_eq_ediv_of_nonneg hp
      have k8 : wrap64 qq = qq := by clear k1 k2 k3 k4 k5 k6 k7; exact IntWalk.wrap64_in _ (by omega)
      rw [← hqq] at hr
      have HH := Lib.hid hr
      clear hr ha hp hiw hqq HR e1
      go_wp2
      go_ret
      rw [HH.out]
      exact ⟨rfl, HB1.out⟩
    · by_cases e3 : a0 = 3
      · subst e3
        have hr := HR.out
        rw [if_neg (by decide), if_neg (by decide), if_pos rfl] at hr
        have k1 : wrap64 (y - sy) = y - sy := IntWalk.wrap64_in _ (by omega)
        have k2 : wrap64 (12 * (y - sy)) = 12 * (y - sy) := by clear k1; exact IntWalk.wrap64_in _ (by omega)
        have k3 : wrap64 (12 * (y - sy) + m) = 12 * (y - sy) + m := by clear k1 k2; exact IntWalk.wrap64_in _ (by omega)
        have k4 : wrap64 (12 * (y - sy) + m - sm) = 12 * (y - sy) + m - sm := by clear k1 k2 k3; exact IntWalk.wrap64_in _ (by omega)
        have HH := Lib.hid hr
        clear hr ha hp0 HR e1 e2
        go_wp2
        go_ret
        rw [HH.out]
        exact ⟨rfl, HB1.out⟩
      · obtain rfl : a0 = 4 := by omega
        have hr := HR.out
        rw [if_neg (by decide), if_neg (by decide), if_neg (by decide)] at hr
        have k1 : wrap64 (y - sy) = y - sy := IntWalk.wrap64_in _ (by omega)
        have HH := Lib.hid hr
        clear hr ha hp0 HR e1 e2 e3
        go_wp2
        go_ret
        rw [HH.out]
        exact ⟨rfl, HB1.out⟩
end Go.Proofs.Ytinjbpbpgogdhaa.Own
end
