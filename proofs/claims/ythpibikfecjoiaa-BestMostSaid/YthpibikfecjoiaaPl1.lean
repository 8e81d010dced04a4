import Derived.Test.YthpibikfecjoiaaPl0
import Derived.Test.YthpibikfecjoiaaOwnx2b
namespace Go.Proofs.Ythpibikfecjoiaa.Own
open Go.RowKit Go.Proofs.YthpibikfecjoiaaW.PrintWords Go.Proofs.YthpibikfecjoiaaW.PrintLast Go.Proofs.YthpibikfecjoiaaW.PrintMore
set_option linter.unusedVariables false
set_option linter.unusedSimpArgs false
theorem fixed_true : vesperslaw21_fixed.f = some true := by decide +kernel
def Q (l : List S33) (can : List Bool) (seats : Int) (apart : List S39) : List Int → Int → Bool := fun x j => fitsB (canP l.length can) seats (nbP apart) l x j
theorem canP_get {n : Nat} {can : List Bool} {j : Nat} (h : j < n) : (canP n can).getD j false = can.getD j false := by
  unfold canP
  rw [List.getD_eq_getElem?_getD]
  simp [h]
theorem choose_f {l : List S33} {can : List Bool} {seats : Int} {apart : List S39} (h : l.length ≤ 16) (h6 : apart.length ≤ 1000000) :
    best_Choose.f l can seats apart = some ((chooseP l can seats apart).bw, (chooseP l can seats apart).us, (chooseP l can seats apart).vis) := by
  unfold best_Choose.f
  rw [if_pos ⟨h, h6⟩]
theorem at0 {l : List S33} (h : l.length ≤ 16) : At l l.length 0 0 := ⟨h, by omega, by omega, by omega⟩
theorem choose_most {l : List S33} {can : List Bool} {seats : Int} {apart : List S39} (h : l.length ≤ 16) {b : Nat → Bool} (hb : Fz (Q l can seats apart) l b) : sumF (selV b (wl l)) l.length 0 ≤ (chooseP l can seats apart).bw := by
  have := vis_most (can := canP l.length can) hb (fun j now hq => by
    unfold Q fitsB at hq
    rw [Int.toNat_natCast] at hq
    simp only [Bool.and_eq_true] at hq
    exact hq.1) l.length 0 [] 0 ⟨0, [], 0, false⟩ (at0 h) rfl
  unfold chooseP
  unfold Q at this
  omega
theorem choose_is {l : List S33} (can : List Bool) (seats : Int) (apart : List S39) (h : l.length ≤ 16) : ∃ b, Fz (Q l can seats apart) l b ∧ (chooseP l can seats apart).bw = sumF (selV b (wl l)) l.length 0 ∧ (chooseP l can seats apart).us = pre l b l.length := by
  rcases vis_is (q := Q l can seats apart) (can := canP l.length can) l.length 0 (fun _ => false) 0 ⟨0, [], 0, false⟩ (at0 h) with ⟨h1, _⟩ | ⟨c, _, h2, h3, h4⟩
  · cases h1
  · refine ⟨c, fun j hj hc => h2 j (by omega) hj hc, ?_, h4⟩
    have : (chooseP l can seats apart).bw = 0 + sumF (selV c (wl l)) l.length 0 := h3
    omega
theorem choose_few {l : List S33} (can : List Bool) (seats : Int) (apart : List S39) (h : l.length ≤ 16) : 0 ≤ (chooseP l can seats apart).vis ∧ (chooseP l can seats apart).vis ≤ 2 ^ (l.length + 1) - 1 := by
  have hp : (2 : Int) ^ (l.length + 1) ≤ 2 ^ 17 := by
    have : (2 : Nat) ^ (l.length + 1) ≤ 2 ^ 17 := Nat.pow_le_pow_right (by omega) (by omega)
    have h2 : (((2 : Nat) ^ (l.length + 1) : Nat) : Int) ≤ ((2 ^ 17 : Nat) : Int) := by omega
    simpa using h2
  have := vis_few (q := Q l can seats apart) (l := l) (restRow l (canP l.length can) 0) l.length 0 [] 0 ⟨0, [], 0, false⟩ h (by show (0 : Int) ≤ 0; omega) (by show (0 : Int) + 2 ^ (l.length + 1) ≤ 1000000; omega)
  have a := this.1
  have b := this.2
  simp only at a b
  exact ⟨a, by have : (chooseP l can seats apart).vis ≤ 0 + 2 ^ (l.length + 1) - 1 := b; omega⟩
theorem mem_pre {l : List S33} {b : Nat → Bool} {i : Nat} {x : Int} : x ∈ pre l b i ↔ ∃ j, j < i ∧ b j = true ∧ ul l j = x := by
  unfold pre
  simp [List.mem_map, List.mem_filter, and_assoc]
theorem pre_count (l : List S33) (b : Nat → Bool) (i : Nat) : ((pre l b i).length : Int) = sumF (selV b (fun _ => 1)) i 0 := by
  induction i with
  | zero => rfl
  | succ i ih =>
    rw [pre_succ, List.length_append, sumF_split, ← ih, Nat.zero_add]
    show _ = _ + (selV b (fun _ => 1) i + 0)
    unfold selV
    by_cases c : b i = true
    · rw [if_pos c, if_pos c]; simp
    · rw [if_neg c, if_neg c]; simp
theorem pre_mono (l : List S33) (b : Nat → Bool) {i n : Nat} (h : i ≤ n) : (pre l b i).length ≤ (pre l b n).length := by
  induction n with
  | zero =>
    have : i = 0 := by omega
    rw [this]
    exact Nat.le_refl _
  | succ n ih =>
    rcases Nat.eq_or_lt_of_le h with rfl | h
    · exact Nat.le_refl _
    · have := ih (by omega)
      rw [pre_succ, List.length_append]
      omega
theorem q_iff {l : List S33} {can : List Bool} {seats : Int} {apart : List S39} {now : List Int} {j : Nat} (hj : j < l.length) : Q l can seats apart now (j : Int) = true ↔ can.getD j false = true ∧ (0 ≤ seats → (now.length : Int) < seats) ∧ ∀ x ∈ now, nbP apart x (ul l j) = false := by
  unfold Q fitsB
  rw [Int.toNat_natCast, canP_get hj]
  simp only [Bool.and_eq_true, Bool.not_eq_true', Bool.and_eq_false_iff, decide_eq_false_iff_not, List.any_eq_false, Bool.not_eq_true]
  constructor
  · rintro ⟨h1, h2, h3⟩
    refine ⟨h1, fun h0 => ?_, h3⟩
    rcases h2 with h2 | h2 <;> omega
  · rintro ⟨h1, h2, h3⟩
    refine ⟨h1, ?_, h3⟩
    by_cases c : 0 ≤ seats
    · exact .inr (by have := h2 c; omega)
    · exact .inl (by omega)
/-- A choice that may be, without an order of places. -/
structure Ok (l : List S33) (can : List Bool) (seats : Int) (apart : List S39) (b : Nat → Bool) : Prop where
  ca : ∀ j, j < l.length → b j = true → can.getD j false = true
  se : 0 ≤ seats → sumF (selV b (fun _ => 1)) l.length 0 ≤ seats
  ap : ∀ i j, i < j → j < l.length → b i = true → b j = true → nbP apart (ul l i) (ul l j) = false
theorem ok_of {l : List S33} {can : List Bool} {seats : Int} {apart : List S39} {b : Nat → Bool} (h : Fz (Q l can seats apart) l b) : Ok l can seats apart b := by
  refine ⟨fun j hj hb => ((q_iff hj).1 (h j hj hb)).1, fun h0 => ?_, fun i j hij hj hbi hbj => ((q_iff hj).1 (h j hj hbj)).2.2 _ (mem_pre.2 ⟨i, hij, hbi, rfl⟩)⟩
  rw [← pre_count l]
  have key : ∀ i, i ≤ l.length → ((pre l b i).length : Int) ≤ seats := by
    intro i
    induction i with
    | zero => intro _; exact h0
    | succ i ih =>
      intro hi
      rw [pre_succ, List.length_append]
      by_cases c : b i = true
      · have := ((q_iff (by omega)).1 (h i (by omega) c)).2.1 h0
        rw [if_pos c]; simp; omega
      · rw [if_neg c]; simp; exact ih (by omega)
  exact key _ (Nat.le_refl _)
theorem fz_of {l : List S33} {can : List Bool} {seats : Int} {apart : List S39} {b : Nat → Bool} (h : Ok l can seats apart b) : Fz (Q l can seats apart) l b := by
  intro j hj hb
  refine (q_iff hj).2 ⟨h.ca j hj hb, fun h0 => ?_, fun x hx => ?_⟩
  · have h1 := h.se h0
    rw [← pre_count l] at h1
    have h2 := pre_mono l b (show j + 1 ≤ l.length from hj)
    rw [pre_succ, if_pos hb, List.length_append] at h2
    simp at h2
    omega
  · obtain ⟨i, hij, hbi, rfl⟩ := mem_pre.1 hx
    exact h.ap i j hij hj hbi hb
theorem nb_symm (apart : List S39) (a b : Int) : nbP apart a b = nbP apart b a := by
  unfold nbP
  exact Bool.or_comm _ _
end Go.Proofs.Ythpibikfecjoiaa.Own
