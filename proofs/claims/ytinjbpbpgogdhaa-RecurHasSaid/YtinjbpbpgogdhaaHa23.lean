-- own text: texts of this session merged by a program of it (merge.py), declarations that nothing reaches left out (prune.py)
import Derived.Test.YtinjbpbpgogdhaaHa22
section
namespace Go.Proofs.Ytinjbpbpgogdhaa.Own
open Go.RowKit Go.Proofs.YtinjbpbpgogdhaaW.PrintWords Go.Proofs.YtinjbpbpgogdhaaW.PrintLast Go.Proofs.YtinjbpbpgogdhaaW.PrintMore
set_option linter.unusedVariables false
set_option linter.unusedSimpArgs false
theorem more_mono {a0 a8 : Int} {l4 : List Int} {P : Int → Bool} {day sy sm s1 s2 : Int} (h : s1 ≤ s2) (h2 : (periodL a0 a8 l4 P day sy sm s2).2 = true) : (periodL a0 a8 l4 P day sy sm s1).2 = true := by
  unfold periodL at h2 ⊢
  split at h2
  · rename_i e
    rw [if_pos e]
    have := of_decide_eq_true h2
    exact decide_eq_true (by omega)
  · rename_i e
    rw [if_neg e]
    split at h2
    · rename_i e2
      rw [if_pos e2]
      have := of_decide_eq_true h2
      exact decide_eq_true (by omega)
    · rename_i e2
      rw [if_neg e2]
      split at h2
      · rename_i e3
        rw [if_pos e3]
        have := of_decide_eq_true h2
        exact decide_eq_true (by omega)
      · rename_i e3
        rw [if_neg e3]
        have := of_decide_eq_true h2
        exact decide_eq_true (by omega)
theorem mul_le_mul_ {i j : Nat} {a1 : Int} (ha : 1 ≤ a1) (h : i ≤ j) : (i : Int) * a1 ≤ (j : Int) * a1 := Int.mul_le_mul_of_nonneg_right (by omega) (by omega)
theorem mul_lt_mul_ {i j : Nat} {a1 : Int} (ha : 1 ≤ a1) (h : i < j) : (i : Int) * a1 < (j : Int) * a1 := Int.mul_lt_mul_of_pos_right (by omega) (by omega)
theorem times_mem {a0 a1 a8 : Int} {l4 l7 : List Int} {P : Int → Bool} {day sy sm mi x : Int} (ha1 : 1 ≤ a1) (hd : 0 ≤ day) (hd1 : day ≤ 109938) (hy : 1900 ≤ sy) (hm : 1 ≤ sm) :
    x ∈ timesL a0 a1 0 (-1) a8 l4 l7 P day sy sm mi 0 ↔ ∃ j : Nat, (periodL a0 a8 l4 P day sy sm ((j : Int) * a1)).2 = true ∧ ∃ n ∈ placesL l7 (periodL a0 a8 l4 P day sy sm ((j : Int) * a1)).1, day ≤ n ∧ x = n * 1440 + mi := by
  unfold timesL
  rw [goPer_mem]
  constructor
  · rintro ⟨j, hj, h1, h2⟩
    have h3 := h1 j (Nat.le_refl _)
    rw [Nat.zero_add] at h2 h3
    exact ⟨j, h3, tms_mem.1 h2⟩
  · rintro ⟨j, h1, h2⟩
    have hb := period_more hd hd1 hy hm h1
    have hb2 : (j : Int) * 1 ≤ (j : Int) * a1 := Int.mul_le_mul_of_nonneg_left ha1 (by omega)
    refine ⟨j, by omega, fun i hi => ?_, ?_⟩
    · rw [Nat.zero_add]
      exact more_mono (mul_le_mul_ ha1 hi) h1
    · rw [Nat.zero_add]
      exact tms_mem.2 h2
theorem asc_times {a0 a1 a8 : Int} {l4 l7 : List Int} {P : Int → Bool} {day sy sm mi : Int} (ha1 : 1 ≤ a1) (hy : 0 ≤ sy) (hm : 1 ≤ sm) (hm2 : sm ≤ 12) : Asc (timesL a0 a1 0 (-1) a8 l4 l7 P day sy sm mi 0) := by
  unfold timesL
  refine asc_goPer (fun k => asc_DLp _ _ _ _ _ _ _ _ _ _) ?_ _ _ _
  intro k k' x y hk hx hy'
  exact period_order hy hm hm2 (Int.mul_nonneg (by omega) (by omega)) (mul_lt_mul_ ha1 hk) (placesL_mem hx) (placesL_mem hy')
theorem tw_mem {lim x : Int} : ∀ {l : List Int}, Asc l → (x ∈ l.takeWhile (fun y => decide (y < lim)) ↔ x ∈ l ∧ x < lim)
  | [], _ => by simp
  | y :: l, h => by
    rw [Asc, List.pairwise_cons] at h
    by_cases hy : y < lim
    · rw [List.takeWhile_cons_of_pos (by simpa using hy), List.mem_cons, List.mem_cons, tw_mem h.2]
      constructor
      · rintro (rfl | h')
        · exact ⟨.inl rfl, hy⟩
        · exact ⟨.inr h'.1, h'.2⟩
      · rintro ⟨rfl | h', h2⟩
        · exact .inl rfl
        · exact .inr ⟨h', h2⟩
    · rw [List.takeWhile_cons_of_neg (by simpa using hy)]
      refine ⟨fun h' => (by cases h'), ?_⟩
      rintro ⟨h', h2⟩
      rcases List.mem_cons.1 h' with rfl | h'
      · exact (hy h2).elim
      · have := h.1 x h'
        omega
theorem bet_eq {frm lim most : Int} : ∀ (T out : List Int), (∀ x ∈ T, frm ≤ x) → ((out ++ T.takeWhile (fun y => decide (y < lim))).length : Int) ≤ most → bet frm lim most out T = (out ++ T.takeWhile (fun y => decide (y < lim)), true)
  | [], out, _, _ => by simp [bet]
  | x :: T, out, h, hl => by
    unfold bet
    by_cases hx : lim ≤ x
    · rw [if_pos hx, List.takeWhile_cons_of_neg (by simp; omega), List.append_nil]
    · rw [List.takeWhile_cons_of_pos (by simp; omega)] at hl ⊢
      have h1 := h x List.mem_cons_self
      rw [List.length_append, List.length_cons] at hl
      rw [if_neg hx, if_neg (by omega), if_neg (by omega), bet_eq T (out ++ [x]) (fun y hy => h y (List.mem_cons_of_mem _ hy)) (by
        rw [List.length_append, List.length_append, List.length_singleton]
        omega), List.append_assoc]
      rfl
theorem asc_ext : ∀ (l l' : List Int), Asc l → Asc l' → (∀ x, x ∈ l ↔ x ∈ l') → l = l'
  | [], [], _, _, _ => rfl
  | [], y :: l', _, _, h => by have := (h y).2 List.mem_cons_self; cases this
  | x :: l, [], _, _, h => by have := (h x).1 List.mem_cons_self; cases this
  | x :: l, y :: l', h1, h2, h => by
    rw [Asc, List.pairwise_cons] at h1 h2
    have e : x = y := by
      rcases List.mem_cons.1 ((h x).1 List.mem_cons_self) with e | e
      · exact e
      · rcases List.mem_cons.1 ((h y).2 List.mem_cons_self) with e' | e'
        · exact e'.symm
        · have a := h2.1 x e
          have b := h1.1 y e'
          omega
    subst e
    congr 1
    refine asc_ext l l' h1.2 h2.2 (fun z => ?_)
    constructor
    · intro hz
      rcases List.mem_cons.1 ((h z).1 (List.mem_cons_of_mem _ hz)) with e | e
      · have := h1.1 z hz
        omega
      · exact e
    · intro hz
      rcases List.mem_cons.1 ((h z).2 (List.mem_cons_of_mem _ hz)) with e | e
      · have := h2.1 z hz
        omega
      · exact e
end Go.Proofs.Ytinjbpbpgogdhaa.Own
end
