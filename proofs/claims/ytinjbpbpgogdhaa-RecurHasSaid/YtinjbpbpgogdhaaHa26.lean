-- own text: texts of this session merged by a program of it (merge.py), declarations that nothing reaches left out (prune.py)
import Derived.Test.YtinjbpbpgogdhaaHa23
import Derived.Test.YtinjbpbpgogdhaaHa25
import Derived.Test.YtinjbpbpgogdhaaHa06
import Derived.Maps.Own
import Derived.Carry
section
namespace Go.Proofs.Ytinjbpbpgogdhaa.Own
open Go.RowKit Go.Proofs.YtinjbpbpgogdhaaW.PrintWords Go.Proofs.YtinjbpbpgogdhaaW.PrintLast Go.Proofs.YtinjbpbpgogdhaaW.PrintMore
set_option linter.unusedVariables false
set_option linter.unusedSimpArgs false
theorem ref_row_step {l : List Int} {most : Int} {below : Bool} (hl : l.length ≤ 10000) (h0 : 0 ≤ most) (h1 : most ≤ 1000) (k j : Nat) (hj : j < l.length) :
    vespersref09_row.l0 (k + 1) l most below (l.length : Int) (j : Int) = if okN (rd l (j : Int)) most below = true ∧ (j = 0 ∨ rd l ((j : Int) - 1) < rd l (j : Int)) then vespersref09_row.l0 k l most below (l.length : Int) (((j + 1 : Nat)) : Int) else some false := by
  have e1 : wrap64 (-most) = -most := IntWalk.wrap64_in _ (by omega)
  have e2 : wrap64 ((j : Int) - 1) = (j : Int) - 1 := by clear e1; exact IntWalk.wrap64_in _ (by omega)
  have e3 : wrap64 ((j : Int) + 1) = ((j + 1 : Nat) : Int) := by clear e1 e2; exact IntWalk.wrap64_in _ (by omega)
  generalize hZ : vespersref09_row.l0 k l most below (l.length : Int) (((j + 1 : Nat)) : Int) = Z
  unfold vespersref09_row.l0
  rw [e1, e2, e3, hZ]
  clear e1 e2 e3
  rw [if_pos (by omega), if_pos (by omega), if_pos (by omega)]
  generalize rd l (j : Int) = x
  generalize rd l ((j : Int) - 1) = y
  by_cases c1 : x > most
  · rw [if_pos c1, if_neg (fun h => by have := h.1; unfold okN at this; simp at this; omega)]
  rw [if_neg c1]
  by_cases c2 : x < -most
  · rw [if_pos c2, if_neg (fun h => by have := h.1; unfold okN at this; simp at this; omega)]
  rw [if_neg c2]
  by_cases c3 : x = 0
  · rw [if_pos c3, if_neg (fun h => by have := h.1; unfold okN at this; simp at this; omega)]
  rw [if_neg c3]
  have rest : (if (j : Int) > 0 then (if 0 ≤ (j : Int) - 1 then (if (j : Int) - 1 < (l.length : Int) then (if y ≥ x then (some false) else Z) else (none)) else (none)) else Z) = if (j = 0 ∨ y < x) then Z else some false := by
    by_cases c5 : j = 0
    · rw [if_neg (by omega), if_pos (.inl c5)]
    · rw [if_pos (by omega), if_pos (by omega), if_pos (by omega)]
      by_cases c6 : y ≥ x
      · rw [if_pos c6, if_neg (by rintro (h | h) <;> omega)]
      · rw [if_neg c6, if_pos (.inr (by omega))]
  cases below with
  | true =>
    rw [if_pos rfl, rest]
    have hok : okN x most true = true := by unfold okN; simp; omega
    by_cases c7 : j = 0 ∨ y < x
    · rw [if_pos c7, if_pos ⟨hok, c7⟩]
    · rw [if_neg c7, if_neg (fun h => c7 h.2)]
  | false =>
    rw [if_neg (by simp)]
    by_cases c4 : x < 0
    · rw [if_pos c4, if_neg (fun h => by have := h.1; unfold okN at this; simp at this; omega)]
    rw [if_neg c4, rest]
    have hok : okN x most false = true := by unfold okN; simp; omega
    by_cases c7 : j = 0 ∨ y < x
    · rw [if_pos c7, if_pos ⟨hok, c7⟩]
    · rw [if_neg c7, if_neg (fun h => c7 h.2)]
theorem ref_row_l0 {l : List Int} {most : Int} {below : Bool} (hl : l.length ≤ 10000) (h0 : 0 ≤ most) (h1 : most ≤ 1000) : ∀ (k j : Nat), l.length < j + k → j ≤ l.length → (∀ i : Nat, i < j → okN (rd l (i : Int)) most below = true) → (∀ i : Nat, i + 1 < j → rd l (i : Int) < rd l ((i + 1 : Nat) : Int)) →
    vespersref09_row.l0 k l most below (l.length : Int) (j : Int) = some (rowB l most below)
  | 0, j, h, h2, _, _ => by omega
  | k + 1, j, h, h2, h3, h4 => by
    by_cases hj : j < l.length
    · rw [ref_row_step hl h0 h1 k j hj]
      split
      · rename_i hc
        refine ref_row_l0 hl h0 h1 k (j + 1) (by omega) (by omega) ?_ ?_
        · intro i hi
          by_cases e : i = j
          · rw [e]; exact hc.1
          · exact h3 i (by omega)
        · intro i hi
          by_cases e : i + 1 = j
          · rcases hc.2 with h5 | h5
            · omega
            · have e' : (i : Int) = (j : Int) - 1 := by omega
              rw [e', e]
              exact h5
          · exact h4 i (by omega)
      · rename_i hc
        congr 1
        symm
        unfold rowB
        by_cases ho : okN (rd l (j : Int)) most below = true
        · have hr : ¬ (rd l ((j : Int) - 1) < rd l (j : Int)) ∧ j ≠ 0 := ⟨fun h => hc ⟨ho, .inr h⟩, fun h => hc ⟨ho, .inl h⟩⟩
          have : riseI l = false := by
            unfold riseI
            refine decide_eq_false (fun hp => hr.1 ?_)
            have := hp (j - 1) (by omega)
            have e1 : ((j - 1 : Nat) : Int) = (j : Int) - 1 := by omega
            have e2 : ((j - 1 + 1 : Nat) : Int) = (j : Int) := by omega
            simpa [ltI, e1, e2] using this
          rw [this, Bool.and_false]
        · have : decide (∀ i : Nat, i < l.length → okN (rd l (i : Int)) most below = true) = false := decide_eq_false (fun hp => ho (hp j hj))
          rw [this, Bool.false_and]
    · have hj' : j = l.length := by omega
      unfold vespersref09_row.l0
      rw [if_neg (by omega)]
      congr 1
      symm
      unfold rowB riseI
      rw [Bool.and_eq_true]
      refine ⟨decide_eq_true (fun i hi => h3 i (by omega)), decide_eq_true (fun i hi => ?_)⟩
      have := h4 i (by omega)
      simpa [ltI] using this
theorem ref_row_f {l : List Int} {most : Int} {below : Bool} (hl : l.length ≤ 10000) (h0 : 0 ≤ most) (h1 : most ≤ 1000) (k : Nat) (hk : l.length < k) : vespersref09_row.f k l most below = some (rowB l most below) :=
  ref_row_l0 hl h0 h1 k 0 (by omega) (Nat.zero_le _) (fun i hi => by omega) (fun i hi => by omega)
theorem ref_days_step {a0 a1 a2 a3 a8 : Int} {l4 l5 l7 : List Int} {l6 : List S58} (ha : 1 ≤ a0 ∧ a0 ≤ 4) (hl : l6.length ≤ 10000) (k j : Nat) (hj : j < l6.length) :
    vespersref09_days.l0 (k + 3) (l6.length : Int) (j : Int) a0 a1 a2 a3 l4 l5 l6 l7 a8 = if okD (rd_T58 l6 (j : Int)) (nthB a0 l4) = true ∧ (j = 0 ∨ lessD (rd_T58 l6 ((j : Int) - 1)) (rd_T58 l6 (j : Int)) = true) then vespersref09_days.l0 k (l6.length : Int) (((j + 1 : Nat)) : Int) a0 a1 a2 a3 l4 l5 l6 l7 a8 else some false := by
  have e2 : wrap64 ((j : Int) - 1) = (j : Int) - 1 := IntWalk.wrap64_in _ (by omega)
  have e3 : wrap64 ((j : Int) + 1) = ((j + 1 : Nat) : Int) := by clear e2; exact IntWalk.wrap64_in _ (by omega)
  generalize hZ : vespersref09_days.l0 k (l6.length : Int) (((j + 1 : Nat)) : Int) a0 a1 a2 a3 l4 l5 l6 l7 a8 = Z
  -- the last part: does it stand behind the one ahead?
  have J2 : ∀ x y : Int, vespersref09_days.j2 (k + 1) (j : Int) (l6.length : Int) (j : Int) false a0 a1 a2 a3 l4 l5 l6 l7 a8 x y = if (j = 0 ∨ lessD (rd_T58 l6 ((j : Int) - 1)) ⟨x, y⟩ = true) then Z else some false := by
    intro x y
    unfold vespersref09_days.j2
    rw [e2, e3, hZ, if_neg (by simp)]
    clear e2 e3
    by_cases c5 : j = 0
    · rw [if_neg (by omega), if_pos (.inl c5)]
    · rw [if_pos (by omega), if_pos (by omega), if_pos (by omega)]
      generalize rd_T58 l6 ((j : Int) - 1) = p
      by_cases c6 : p.f0 > x
      · rw [if_pos c6, if_neg]
        rintro (h | h)
        · exact c5 h
        · unfold lessD at h
          simp at h
          omega
      rw [if_neg c6]
      by_cases c7 : p.f0 = x
      · rw [if_pos c7]
        by_cases c8 : p.f1 ≥ y
        · rw [if_pos c8, if_neg]
          rintro (h | h)
          · exact c5 h
          · unfold lessD at h
            simp at h
            omega
        · rw [if_neg c8, if_pos]
          refine .inr ?_
          unfold lessD
          simp
          omega
      · rw [if_neg c7, if_pos]
        refine .inr ?_
        unfold lessD
        simp
        omega
  have J2t : ∀ x y : Int, vespersref09_days.j2 (k + 1) (j : Int) (l6.length : Int) (j : Int) true a0 a1 a2 a3 l4 l5 l6 l7 a8 x y = some false := by
    intro x y
    unfold vespersref09_days.j2
    rw [if_pos rfl]
  have J1 : ∀ x y : Int, vespersref09_days.j1 (k + 2) (j : Int) (l6.length : Int) (j : Int) false a0 a1 a2 a3 l4 l5 l6 l7 a8 x y = if (x = 0 ∨ nthB a0 l4 = true) ∧ (j = 0 ∨ lessD (rd_T58 l6 ((j : Int) - 1)) ⟨x, y⟩ = true) then Z else some false := by
    intro x y
    unfold vespersref09_days.j1
    rw [J2, J2t, if_neg (by simp)]
    by_cases c1 : x = 0
    · rw [if_pos c1]
      by_cases c7 : (j = 0 ∨ lessD (rd_T58 l6 ((j : Int) - 1)) ⟨x, y⟩ = true)
      · rw [if_pos c7, if_pos ⟨.inl c1, c7⟩]
      · rw [if_neg c7, if_neg (fun h => c7 h.2)]
    rw [if_neg c1]
    by_cases c2 : a0 < 3
    · rw [if_pos c2, if_neg]
      rintro ⟨h | h, _⟩
      · exact c1 h
      · unfold nthB at h
        simp at h
        omega
    rw [if_neg c2]
    by_cases c3 : a0 = 4
    · rw [if_pos c3]
      by_cases c4 : (l4.length : Int) = 0
      · rw [show ((l4.length : Int) == 0) = true from by rw [c4]; rfl, J2t, if_neg]
        rintro ⟨h | h, _⟩
        · exact c1 h
        · unfold nthB at h
          simp at h
          omega
      · rw [show ((l4.length : Int) == 0) = false from by rw [Bool.eq_false_iff]; intro h; exact c4 (eq_of_beq h), J2]
        have hn : nthB a0 l4 = true := by unfold nthB; simp; omega
        by_cases c7 : (j = 0 ∨ lessD (rd_T58 l6 ((j : Int) - 1)) ⟨x, y⟩ = true)
        · rw [if_pos c7, if_pos ⟨.inr hn, c7⟩]
        · rw [if_neg c7, if_neg (fun h => c7 h.2)]
    · rw [if_neg c3]
      have hn : nthB a0 l4 = true := by unfold nthB; simp; omega
      by_cases c7 : (j = 0 ∨ lessD (rd_T58 l6 ((j : Int) - 1)) ⟨x, y⟩ = true)
      · rw [if_pos c7, if_pos ⟨.inr hn, c7⟩]
      · rw [if_neg c7, if_neg (fun h => c7 h.2)]
  have J1t : ∀ x y : Int, vespersref09_days.j1 (k + 2) (j : Int) (l6.length : Int) (j : Int) true a0 a1 a2 a3 l4 l5 l6 l7 a8 x y = some false := by
    intro x y
    unfold vespersref09_days.j1
    rw [if_pos rfl]
  unfold vespersref09_days.l0
  rw [if_pos (by omega), if_pos (by omega), if_pos (by omega)]
  clear e2 e3
  have hp : rd_T58 l6 (j : Int) = ⟨(rd_T58 l6 (j : Int)).f0, (rd_T58 l6 (j : Int)).f1⟩ := rfl
  generalize rd_T58 l6 (j : Int) = d at hp ⊢
  have hd : okD d (nthB a0 l4) = true ↔ ((0 ≤ d.f1 ∧ d.f1 ≤ 6 ∧ -5 ≤ d.f0 ∧ d.f0 ≤ 5) ∧ (d.f0 = 0 ∨ nthB a0 l4 = true)) := by
    unfold okD
    cases nthB a0 l4 <;> simp <;> omega
  by_cases c1 : d.f1 < 0
  · rw [if_pos c1, J1t, if_neg]
    intro h
    have := (hd.1 h.1).1
    omega
  rw [if_neg c1]
  by_cases c2 : d.f1 > 6
  · rw [if_pos c2, J1t, if_neg]
    intro h
    have := (hd.1 h.1).1
    omega
  rw [if_neg c2]
  by_cases c3 : d.f0 < -5
  · rw [if_pos c3, J1t, if_neg]
    intro h
    have := (hd.1 h.1).1
    omega
  rw [if_neg c3]
  by_cases c4 : d.f0 > 5
  · rw [show decide (d.f0 > 5) = true from decide_eq_true c4, J1t, if_neg]
    intro h
    have := (hd.1 h.1).1
    omega
  rw [show decide (d.f0 > 5) = false from decide_eq_false c4, J1]
  by_cases c7 : (d.f0 = 0 ∨ nthB a0 l4 = true) ∧ (j = 0 ∨ lessD (rd_T58 l6 ((j : Int) - 1)) ⟨d.f0, d.f1⟩ = true)
  · rw [if_pos c7, if_pos ⟨hd.2 ⟨⟨by omega, by omega, by omega, by omega⟩, c7.1⟩, c7.2⟩]
  · rw [if_neg c7, if_neg (fun h => c7 ⟨(hd.1 h.1).2, h.2⟩)]
theorem ref_days_l0 {a0 a1 a2 a3 a8 : Int} {l4 l5 l7 : List Int} {l6 : List S58} (ha : 1 ≤ a0 ∧ a0 ≤ 4) (hl : l6.length ≤ 10000) : ∀ (n k j : Nat), l6.length ≤ j + n → 3 * n < k → j ≤ l6.length → (∀ i : Nat, i < j → okD (rd_T58 l6 (i : Int)) (nthB a0 l4) = true) → (∀ i : Nat, i + 1 < j → lessD (rd_T58 l6 (i : Int)) (rd_T58 l6 ((i + 1 : Nat) : Int)) = true) →
    vespersref09_days.l0 k (l6.length : Int) (j : Int) a0 a1 a2 a3 l4 l5 l6 l7 a8 = some (daysB a0 l4 l6)
  | n, k, j, h, hk, h2, h3, h4 => by
    by_cases hj : j < l6.length
    · obtain ⟨n', rfl⟩ : ∃ n', n = n' + 1 := ⟨n - 1, by omega⟩
      obtain ⟨k', rfl⟩ : ∃ k', k = k' + 3 := ⟨k - 3, by omega⟩
      rw [ref_days_step ha hl k' j hj]
      split
      · rename_i hc
        refine ref_days_l0 ha hl n' k' (j + 1) (by omega) (by omega) (by omega) ?_ ?_
        · intro i hi
          by_cases e : i = j
          · rw [e]; exact hc.1
          · exact h3 i (by omega)
        · intro i hi
          by_cases e : i + 1 = j
          · rcases hc.2 with h5 | h5
            · omega
            · have e' : (i : Int) = (j : Int) - 1 := by omega
              rw [e', e]
              exact h5
          · exact h4 i (by omega)
      · rename_i hc
        congr 1
        symm
        unfold daysB
        by_cases ho : okD (rd_T58 l6 (j : Int)) (nthB a0 l4) = true
        · have hr : ¬ (lessD (rd_T58 l6 ((j : Int) - 1)) (rd_T58 l6 (j : Int)) = true) ∧ j ≠ 0 := ⟨fun h => hc ⟨ho, .inr h⟩, fun h => hc ⟨ho, .inl h⟩⟩
          have : riseD l6 = false := by
            unfold riseD
            refine decide_eq_false (fun hp => hr.1 ?_)
            have := hp (j - 1) (by omega)
            have e1 : ((j - 1 : Nat) : Int) = (j : Int) - 1 := by omega
            have e2 : ((j - 1 + 1 : Nat) : Int) = (j : Int) := by omega
            simpa only [e1, e2] using this
          rw [this, Bool.and_false]
        · have : decide (∀ i : Nat, i < l6.length → okD (rd_T58 l6 (i : Int)) (nthB a0 l4) = true) = false := decide_eq_false (fun hp => ho (hp j hj))
          rw [this, Bool.false_and]
    · have hj' : j = l6.length := by omega
      obtain ⟨k', rfl⟩ : ∃ k', k = k' + 1 := ⟨k - 1, by omega⟩
      unfold vespersref09_days.l0
      rw [if_neg (by omega)]
      congr 1
      symm
      unfold daysB riseD
      rw [Bool.and_eq_true]
      exact ⟨decide_eq_true (fun i hi => h3 i (by omega)), decide_eq_true (fun i hi => h4 i (by omega))⟩
  termination_by n => n
theorem ref_days_f {a0 a1 a2 a3 a8 : Int} {l4 l5 l7 : List Int} {l6 : List S58} (ha : 1 ≤ a0 ∧ a0 ≤ 4) (hl : l6.length ≤ 10000) (k : Nat) (hk : 3 * l6.length < k) : vespersref09_days.f k a0 a1 a2 a3 l4 l5 l6 l7 a8 = some (daysB a0 l4 l6) :=
  ref_days_l0 ha hl l6.length k 0 (by omega) hk (Nat.zero_le _) (fun i hi => by omega) (fun i hi => by omega)
/-- The reference's May tells what the program's does. -/
theorem ref_May_told {a0 a1 a2 a3 a8 : Int} {l4 l5 l7 : List Int} {l6 : List S58} (h4 : l4.length ≤ 1000) (h5 : l5.length ≤ 1000) (h6 : l6.length ≤ 1000) (h7 : l7.length ≤ 1000) (k : Nat) (hk : 3100 ≤ k) : vespersref09_May.f k a0 a1 a2 a3 l4 l5 l6 l7 a8 = some (mayB a0 a1 a2 a3 l4 l5 l6 l7 a8) := by
  obtain ⟨k, rfl⟩ : ∃ k', k = k' + 3 := ⟨k - 3, by omega⟩
  have J0t : vespersref09_May.j0 (k + 3) true a0 a1 a2 a3 l4 l5 l6 l7 a8 = some false := by
    rw [vespersref09_May.j0, if_pos rfl]
  have J1t : vespersref09_May.j1 (k + 2) true a0 a1 a2 a3 l4 l5 l6 l7 a8 = some false := by
    rw [vespersref09_May.j1, if_pos rfl]
  have J2t : vespersref09_May.j2 (k + 1) true a0 a1 a2 a3 l4 l5 l6 l7 a8 = some false := by
    rw [vespersref09_May.j2, if_pos rfl]
  have J2 : vespersref09_May.j2 (k + 1) false a0 a1 a2 a3 l4 l5 l6 l7 a8 = some ((!decide (a0 = 2) || decide (l5.length = 0)) && (decide (0 < l4.length + l5.length + l6.length) || decide (l7.length = 0))) := by
    rw [vespersref09_May.j2, if_neg (by simp)]
    repeat' split
    all_goals congr 1
    all_goals rw [Bool.eq_iff_iff]
    all_goals simp only [Bool.and_eq_true, Bool.or_eq_true, Bool.not_eq_true', decide_eq_true_eq, decide_eq_false_iff_not, true_iff, Bool.false_eq_true, false_iff]
    all_goals omega
  have J1 : 1 ≤ a0 ∧ a0 ≤ 4 → vespersref09_May.j1 (k + 2) false a0 a1 a2 a3 l4 l5 l6 l7 a8 = some (rowB l4 12 false && rowB l5 31 true && ((!decide (a0 = 2) || decide (l5.length = 0))) && daysB a0 l4 l6 && rowB l7 366 true && (decide (0 < l4.length + l5.length + l6.length) || decide (l7.length = 0))) := by
    intro ha
    rw [vespersref09_May.j1, if_neg (by simp), ref_row_f (by omega) (by decide) (by decide) _ (by omega), ref_row_f (by omega) (by decide) (by decide) _ (by omega), ref_row_f (by omega) (by decide) (by decide) _ (by omega), ref_days_f ha (by omega) _ (by omega), J2t]
    simp only [Option.bind_some]
    cases rowB l4 12 false <;> cases rowB l5 31 true <;> cases rowB l7 366 true <;> cases daysB a0 l4 l6 <;> simp [J2, J2t]
  unfold mayB
  have hend : ∀ b : Bool, endsB a2 a3 = b → True := fun _ _ => trivial
  unfold vespersref09_May.f
  by_cases c1 : a0 < 1
  · rw [if_pos c1, J0t, show decide (1 ≤ a0) = false from decide_eq_false (by omega)]
    simp
  rw [if_neg c1]
  by_cases c2 : a0 > 4
  · rw [if_pos c2, J0t, show decide (a0 ≤ 4) = false from decide_eq_false (by omega)]
    simp
  rw [if_neg c2]
  by_cases c3 : a1 < 1
  · rw [if_pos c3, J0t, show decide (1 ≤ a1) = false from decide_eq_false (by omega)]
    simp
  rw [if_neg c3]
  by_cases c4 : a1 > 999
  · rw [if_pos c4, J0t, show decide (a1 ≤ 999) = false from decide_eq_false (by omega)]
    simp
  rw [if_neg c4]
  by_cases c5 : a2 < 0
  · rw [if_pos c5, J0t, show endsB a2 a3 = false from if_pos c5]
    simp
  rw [if_neg c5]
  by_cases c6 : a2 > 5000
  · rw [if_pos c6, J0t, show endsB a2 a3 = false from (if_neg c5).trans (if_pos c6)]
    simp
  rw [if_neg c6]
  by_cases c7 : a8 < 0
  · rw [if_pos c7, J0t, show decide (0 ≤ a8) = false from decide_eq_false (by omega)]
    simp
  rw [if_neg c7]
  by_cases c8 : a8 > 6
  · rw [show decide (a8 > 6) = true from decide_eq_true c8, J0t, show decide (a8 ≤ 6) = false from decide_eq_false (by omega)]
    simp
  rw [show decide (a8 > 6) = false from decide_eq_false c8, vespersref09_May.j0, if_neg (by simp), J1 ⟨by omega, by omega⟩, J1t]
  rw [show decide (1 ≤ a0) = true from decide_eq_true (by omega), show decide (a0 ≤ 4) = true from decide_eq_true (by omega), show decide (1 ≤ a1) = true from decide_eq_true (by omega), show decide (a1 ≤ 999) = true from decide_eq_true (by omega), show decide (0 ≤ a8) = true from decide_eq_true (by omega), show decide (a8 ≤ 6) = true from decide_eq_true (by omega)]
  by_cases d1 : a3 = -1
  · rw [if_pos d1, show endsB a2 a3 = true from (if_neg c5).trans ((if_neg c6).trans (if_pos d1))]
    simp
  rw [if_neg d1]
  by_cases d2 : a3 < 0
  · rw [if_pos d2, show endsB a2 a3 = false from (if_neg c5).trans ((if_neg c6).trans ((if_neg d1).trans (if_neg (by omega))))]
    simp
  rw [if_neg d2]
  by_cases d3 : a3 ≥ 158310720
  · rw [if_pos d3, show endsB a2 a3 = false from (if_neg c5).trans ((if_neg c6).trans ((if_neg d1).trans ((if_pos (by omega)).trans (if_neg (by omega)))))]
    simp
  rw [if_neg d3, show endsB a2 a3 = (a2 == 0) from (if_neg c5).trans ((if_neg c6).trans ((if_neg d1).trans ((if_pos (by omega)).trans (if_pos (by omega)))))]
  by_cases d4 : a2 > 0
  · rw [show decide (a2 > 0) = true from decide_eq_true d4, J1t, show (a2 == 0) = false from by rw [Bool.eq_false_iff]; intro h; have := eq_of_beq h; omega]
    simp
  · have d5 : a2 = 0 := by omega
    rw [show decide (a2 > 0) = false from decide_eq_false d4, J1 ⟨by omega, by omega⟩, show (a2 == 0) = true from by rw [d5]; rfl]
    simp
end Go.Proofs.Ytinjbpbpgogdhaa.Own
end
section
namespace Go.Proofs.Ytinjbpbpgogdhaa.Own
open Go.RowKit Go.Proofs.YtinjbpbpgogdhaaW.PrintWords Go.Proofs.YtinjbpbpgogdhaaW.PrintLast Go.Proofs.YtinjbpbpgogdhaaW.PrintMore
set_option linter.unusedVariables false
set_option linter.unusedSimpArgs false
theorem dayB_iff {a0 : Int} {l4 l5 : List Int} {l6 : List S58} {day sm sd n : Int} : dayB a0 l4 l5 l6 day sm sd n = true ↔ ∃ Y M D, Ok Y M D ∧ num Y M D = n ∧ rightB l4 l5 l6 n Y M D = true ∧ usualB a0 l4 l5 l6 day sm sd n M D = true := by
  by_cases hn : n < 0 ∨ 109938 ≤ n
  · unfold dayB
    rw [civil_Date_no (by decide) hn]
    refine ⟨fun h => (by cases h), ?_⟩
    rintro ⟨Y, M, D, hok, e, _⟩
    have := num_bd hok
    omega
  · obtain ⟨Y, M, D, hd, hok, hnum⟩ := civil_Date_ok (k := 3000) (by decide) (n := n) (by omega) (by omega)
    have e : dayB a0 l4 l5 l6 day sm sd n = (rightB l4 l5 l6 n Y M D && usualB a0 l4 l5 l6 day sm sd n M D) := by
      unfold dayB
      rw [hd]
    rw [e, Bool.and_eq_true]
    constructor
    · rintro ⟨h1, h2⟩
      exact ⟨Y, M, D, hok, hnum, h1, h2⟩
    · rintro ⟨Y', M', D', hok', hnum', h1, h2⟩
      obtain ⟨rfl, rfl, rfl⟩ := num_inj hok' hok (hnum'.trans hnum.symm)
      exact ⟨h1, h2⟩
theorem num_fix : num 2026 1 31 = 46051 := by decide
theorem hasI_one (a x : Int) : hasI [a] x = true ↔ x = a := by
  unfold hasI
  rw [decide_eq_true_eq]
  constructor
  · rintro ⟨i, hi, h⟩
    rw [List.length_singleton] at hi
    rw [show i = 0 from by omega] at h
    exact h.symm
  · rintro rfl
    exact ⟨0, by simp, rfl⟩
theorem fix_P (day sm sd n : Int) : dayB 3 [] [31] [] day sm sd n = true ↔ ∃ Y M, Ok Y M 31 ∧ num Y M 31 = n := by
  rw [dayB_iff]
  have hu : ∀ M D, usualB 3 [] [31] [] day sm sd n M D = true := fun M D => by
    unfold usualB
    rw [if_neg (by simp)]
  constructor
  · rintro ⟨Y, M, D, hok, e, h1, _⟩
    have hl : lenZ Y M = len Y M := by
      unfold lenZ
      rw [civil_Length_f (by decide)]
      rfl
    unfold rightB at h1
    simp only [List.length_nil, decide_true, Bool.true_or, Bool.true_and, Bool.and_true, List.length_singleton, Nat.succ_ne_self, decide_false, Bool.false_or, Bool.or_eq_true, hasI_one] at h1
    have hD : D = 31 := by
      rcases h1 with h1 | h1
      · simpa [hasI_one] using h1
      · have hok' := hok
        obtain ⟨_, _, _, _, _, h6⟩ := hok'
        rw [hl] at h1
        omega
    subst hD
    exact ⟨Y, M, hok, e⟩
  · rintro ⟨Y, M, hok, e⟩
    refine ⟨Y, M, 31, hok, e, ?_, hu _ _⟩
    unfold rightB
    have : hasI [31] 31 = true := (hasI_one _ _).2 rfl
    rw [this]
    simp
theorem fix_enum {Y M : Int} (h : Ok Y M 31) (h1 : 46051 ≤ num Y M 31) (h2 : num Y M 31 < 46051 + 90) : num Y M 31 = 46051 ∨ num Y M 31 = 46110 := by
  have hok := h
  obtain ⟨g1, g2, g3, g4, g5, g6⟩ := h
  have hcb := cm_bd (y := Y) g3 g4
  have hY : Y = 2026 := by
    rw [num_eq g3 g4] at h1 h2
    by_cases c1 : Y < 2026
    · have : eraZ (Y - 1) ≤ eraZ 2024 := by
        by_cases e : Y - 1 = 2024
        · rw [e]; exact Int.le_refl _
        · have := era_mono (show Y - 1 < 2024 by omega)
          omega
      have e2 : eraZ 2024 = 739251 := by decide
      omega
    · by_cases c2 : 2026 < Y
      · have := era_mono (show (2025 : Int) < Y - 1 + 1 by omega)
        have e3 : eraZ 2026 = 739981 := by decide
        have : eraZ 2026 ≤ eraZ (Y - 1) := by
          by_cases e : Y - 1 = 2026
          · rw [e]; exact Int.le_refl _
          · have := era_mono (show 2026 < Y - 1 by omega)
            omega
        omega
      · omega
  subst hY
  have hm : M = 1 ∨ M = 2 ∨ M = 3 ∨ M = 4 ∨ M = 5 ∨ M = 6 ∨ M = 7 ∨ M = 8 ∨ M = 9 ∨ M = 10 ∨ M = 11 ∨ M = 12 := by omega
  rcases hm with rfl | rfl | rfl | rfl | rfl | rfl | rfl | rfl | rfl | rfl | rfl | rfl
  · exact .inl (by decide)
  · exact absurd g6 (by decide)
  · exact .inr (by decide)
  · exact absurd g6 (by decide)
  all_goals exact absurd h2 (by decide)
/-- The chapter's example. -/
theorem fix_plain : bet 0 (66313440 + 129600) 9 [] (timesL 3 1 0 (-1) 0 [] [] (dayB 3 [] [31] [] 46051 1 31) 46051 2026 1 0 0) = ([66313440, 66398400], true) := by
  have hmem : ∀ x, x ∈ timesL 3 1 0 (-1) 0 [] [] (dayB 3 [] [31] [] 46051 1 31) 46051 2026 1 0 0 ↔ _ := fun x => times_mem (x := x) (by decide) (by decide) (by decide) (by decide) (by decide)
  have hA : Asc (timesL 3 1 0 (-1) 0 [] [] (dayB 3 [] [31] [] 46051 1 31) 46051 2026 1 0 0) := asc_times (by decide) (by decide) (by decide) (by decide)
  have pl : ∀ l, placesL [] l = l := fun l => if_pos rfl
  have hT : (timesL 3 1 0 (-1) 0 [] [] (dayB 3 [] [31] [] 46051 1 31) 46051 2026 1 0 0).takeWhile (fun y => decide (y < 66313440 + 129600)) = [66313440, 66398400] := by
    refine asc_ext _ _ (List.Pairwise.sublist (List.takeWhile_sublist _) hA) (by simp) (fun x => ?_)
    rw [tw_mem hA, hmem]
    constructor
    · rintro ⟨⟨j, _, n, hn, h1, rfl⟩, h2⟩
      rw [pl] at hn
      obtain ⟨Y, M, hok, e⟩ := (fix_P _ _ _ _).1 (periodL_P hn)
      rcases fix_enum hok (by omega) (by omega) with h | h
      · rw [h] at e
        rw [← e]
        simp
      · rw [h] at e
        rw [← e]
        simp
    · intro hx
      have per : ∀ (st m n : Int), (12 * 2026 + 1 - 1 + st) / 12 = 2026 → (12 * 2026 + 1 - 1 + st) % 12 + 1 = m → Ok 2026 m 31 → num 2026 m 31 = n → num 2026 m 1 ≤ n → n < num 2026 m 1 + len 2026 m → (periodL 3 0 [] (dayB 3 [] [31] [] 46051 1 31) 46051 2026 1 st).2 = true ∧ n ∈ (periodL 3 0 [] (dayB 3 [] [31] [] 46051 1 31) 46051 2026 1 st).1 := by
        intro st m n e1 e2 hok e3 h1 h2
        unfold periodL
        rw [if_neg (by decide), if_neg (by decide), if_pos rfl, e1, e2]
        refine ⟨(rfl : decide ((2026 : Int) ≤ 2200) = true), monthL_mem.2 (.inr ⟨⟨⟨hok.1, hok.2.1, hok.2.2.1, hok.2.2.2.1, by decide, by have := hok.2.2.2.2.2; omega⟩, .inl rfl⟩, (fix_P _ _ _ _).2 ⟨2026, m, hok, e3⟩, h1, h2⟩)⟩
      rcases List.mem_cons.1 hx with rfl | hx
      · refine ⟨⟨0, ?_⟩, by decide⟩
        obtain ⟨p1, p2⟩ := per 0 1 46051 (by decide) (by decide) (by unfold Ok; decide) (by decide) (by decide) (by decide)
        refine ⟨p1, 46051, by rw [pl]; exact p2, by decide, by decide⟩
      · have hx' : x = 66398400 := by simpa using hx
        subst hx'
        refine ⟨⟨2, ?_⟩, by decide⟩
        obtain ⟨p1, p2⟩ := per 2 3 46110 (by decide) (by decide) (by unfold Ok; decide) (by decide) (by decide) (by decide)
        refine ⟨p1, 46110, by rw [pl]; exact p2, by decide, by decide⟩
  rw [bet_eq _ [] (fun x hx => by
    obtain ⟨j, _, n, _, h1, rfl⟩ := (hmem x).1 hx
    omega) (by rw [hT]; decide), hT]
  rfl
end Go.Proofs.Ytinjbpbpgogdhaa.Own
end
section
namespace Go.Proofs.Ytinjbpbpgogdhaa.Own
open Go.RowKit Go.Shelf Go.Proofs.YtinjbpbpgogdhaaW.PrintWords Go.Proofs.YtinjbpbpgogdhaaW.PrintLast Go.Proofs.YtinjbpbpgogdhaaW.PrintMore
set_option linter.unusedVariables false
set_option linter.unusedSimpArgs false
theorem C_one {w : World} {g : Nat} {k : IntKind} {x : Int} {t : TypeId} (h : w.heap[g]? = some (.cells #[.int k x] t (0, 0))) : (Kd.int k).C w (some ⟨g, 0, none⟩) [x].length [x] := by
  refine ⟨rfl, by rw [List.length_singleton]; decide, fun _ => ⟨_, rfl, fun j p hp => ?_⟩⟩
  cases j with
  | succ j => simp at hp
  | zero =>
    have e : p = x := by simpa using hp.symm
    subst e
    refine ⟨[.int k p], rfl, rfl, fun i u hu => ?_⟩
    cases i with
    | succ i => simp at hu
    | zero =>
      have e : u = .int k p := by simpa using hu.symm
      subst e
      exact cell_eq (blk_cell h 0) rfl
theorem owns_C {w : World} {n0 e : Nat} {k : IntKind} {A : Option Addr} {c : Nat} {l : List Int} (h : w.ownsRow n0 e 1 (.slice A l.length c) l.length (l.map (Value.int k))) (hm : l.length ≤ 44400000) : (Kd.int k).C w A l.length l := by
  refine ⟨rfl, by omega, fun hp => ?_⟩
  rcases h.2 with ⟨h1, h2⟩ | ⟨g, cap, cur, h1, h2, h3, h4, h5, h6, h7⟩
  · omega
  · injection h1 with h8 h9 h10
    refine ⟨_, h8, fun j p hp => ⟨[.int k p], rfl, rfl, fun i u hu => ?_⟩⟩
    cases i with
    | succ i => simp at hu
    | zero =>
      have e : u = .int k p := by simpa using hu.symm
      subst e
      have hj : j < l.length := (List.getElem?_eq_some_iff.1 hp).1
      have hcur : cur[j]? = some (.int k p) := by
        have h8 : (cur.toList.take (l.length * 1))[j]? = some (.int k p) := by
          rw [h7, List.getElem?_map, hp]
          rfl
        rw [List.getElem?_take, if_pos (by omega)] at h8
        simpa using h8
      have e2 : (⟨g, 0, none⟩ : Addr).add (j * (Kd.int k).sz + 0) = ⟨g, j, none⟩ := by
        have : j * (Kd.int k).sz + 0 = j := by show j * 1 + 0 = j; omega
        rw [this]
        simp [Addr.add]
        try omega
      rw [e2]
      exact cell_eq (blk_cell h3 j) hcur
theorem fix_may : mayB 3 1 0 (-1) [] [31] [] [] 0 = true := by decide
set_option maxHeartbeats 4000000 in
set_option maxRecDepth 100000 in
/-- fixed answers true. -/
theorem fixed_any (w : World) : Calls Try.prog 6 #[] w fun e w' => e = .returned (.bool true) ∧ Below w.heap.size w w' := by
  have HN := Lib.hid (fun W => vespersref01_Number.calls 500 2026 1 31 46051 true W (by rw [ref_Number_ok (by decide) (by unfold Ok; decide), num_fix]))
  go_enter Try.func6, Try.ntmps6
  go_upto_region 3 with (first | ((with_reducible refine (HN.out _).mono ?_); rintro e w2 ⟨rfl, hb2⟩; have HB2 := Lib.hid hb2; clear hb2))
  have HX : Hid (∀ g W, W.heap[g]? = some (.cells #[.int .i64 31] 3 (0, 0)) → Calls Try.prog 8 #[.agg #[.int .i64 3, .int .i64 1, .int .i64 0, .int .i64 (-1), .slice none 0 0, .slice (some ⟨g, 0, none⟩) 1 1, .slice none 0 0, .slice none 0 0, .int .i64 0], .int .i64 66313440, .int .i64 0, .int .i64 66443040, .int .i64 9] W (BetPost W ([66313440, 66398400], true))) := Lib.hid (fun g W hg => by
    have hR : RC W none (some ⟨g, 0, none⟩) none none 0 1 0 0 [] [31] [] [] := ⟨Kd.C_nil _ _, C_one hg, Kd.C_nil _ _, Kd.C_nil _ _, Nat.le_refl _, Nat.le_refl _, Nat.le_refl _, Nat.le_refl _, by decide, by decide, by decide, by decide⟩
    have hdd : (66313440 : Int) / 1440 = 46051 := by decide
    have hmm : (66313440 : Int) % 1440 = 0 := by decide
    have hB := between_any (Y := 2026) (M := 1) (D := 31) 0 _ 66313440 0 66443040 9 W hR fix_may (by decide) (by decide) (by rw [hdd, ← num_fix]; exact civil_Date_num (by decide) (by unfold Ok; decide)) (by decide) (by decide) (fun g' W' hW' => (first_zero 0 hW' (by decide) (by decide) (by decide) (by decide) (.inr (by decide))).mono (fun e w' h => ⟨h.1, by rw [h.2]; exact Below.refl _ _⟩)) rfl (by decide) (by decide) (by decide) (by decide)
    rw [hdd, hmm] at hB
    rw [← fix_plain]
    exact hB)
  go_upto_region 4 with (first | ((with_reducible refine (HX.out _ _ (alloc_blk _ _ _)).mono ?_); rintro e w4 ⟨v, rfl, hown, hb4⟩; have HO := Lib.hid hown; have HB4 := Lib.hid hb4; clear hown hb4))
  have HB0 := Lib.hid (HB2.out.trans ((below_new_.trans (HB4.out.mono (below_new_ (w := w2) (o := (.cells #[.int .i64 31] 3))).size)).mono HB2.out.size))
  obtain ⟨gg, cap, rfl⟩ := ownsRow_succ (k := 1) HO.out
  have HC := Lib.hid (owns_C (c := cap) HO.out (by decide))
  obtain ⟨ad, e, h0⟩ := Kd.at_int HC.out 0 (by decide) (by decide)
  obtain rfl : _ = ad := Option.some.inj e
  obtain ⟨ad', e', h1⟩ := Kd.at_int HC.out 1 (by decide) (by decide)
  obtain rfl : _ = ad' := Option.some.inj e'
  have q0 : w4.cell? ⟨gg, 0, none⟩ = some (.int .i64 66313440) := h0
  have q1 : w4.cell? ⟨gg, 1, none⟩ = some (.int .i64 66398400) := h1
  clear h0 h1 e e'
  go_wp2
  go_ret
  exact ⟨rfl, HB0.out⟩
end Go.Proofs.Ytinjbpbpgogdhaa.Own
end
section
namespace Go.Proofs.Ytinjbpbpgogdhaa.Own
open Go.RowKit Go.Maps Go.Shelf Go.Proofs.YtinjbpbpgogdhaaW.PrintWords Go.Proofs.YtinjbpbpgogdhaaW.PrintLast Go.Proofs.YtinjbpbpgogdhaaW.PrintMore
set_option linter.unusedVariables false
set_option linter.unusedSimpArgs false
/-- An entry of a map literal: a store into the map. -/
theorem wpList_insert_own {H : Type} {P : Program} (w : World) {ops : Array Oper} {rest : List Oper} {o : Oper} {a : Act} {Q : Exit → Act → World → Prop}
    (hg : o.guard = none) (m x v : Operand) (t : TypeId) (hop : o.op = Op.insert t m x v)
    (k e : TypeId) (K : Keyed P k) (ht : P.underlying t = some (.map k e)) (R : Value → Option (DataW H × List MemPlace)) (b n : Nat) (D : DataW H)
    (hm : a.eval m = .map (some b)) (hown : w.ownsMap P k R b n D) (hn : n < maxLen) (key val : Value) (kl : Lit) (hx : a.eval x = key) (hv : a.eval v = val) (hkey : keyOf P k key = some kl)
    (d : DataW H) (ps : List MemPlace) (hval : R val = some (d, ps))
    (hK : ∀ w', w'.ownsMap P k R b (n + 1) (D.put kl d) → w.grownBy w' (some b) → wpList P ops Q rest (a.put o.dst undef) w') :
    wpList P ops Q (o :: rest) a w := by
  refine wpList_plain hg fun K' hK' => ?_
  obtain ⟨w', hrun, r1, r2⟩ := hown.update K ht hn hkey hval
  unfold Oper.wp
  simp [execOp, hop, hm, hx, hv, hrun, Result.andThen]
  exact hK' _ _ (hK w' r1 r2)
/-- The most days of a period. -/
def longZ (a0 : Int) : Int := if a0 = 1 then 1 else if a0 = 2 then 7 else if a0 = 3 then 31 else 366
def firstZ (a0 a1 gone : Int) : Int := if gone / (longZ a0 * a1) - 1 < 0 then 0 else gone / (longZ a0 * a1) - 1
theorem wfi {a : Int} (h : a = 1 ∨ a = 2 ∨ a = 3 ∨ a = 4 ∨ a = 7 ∨ a = 31 ∨ a = 366) : (Lit.int .i64 a).wf = true := by
  rcases h with rfl | rfl | rfl | rfl | rfl | rfl | rfl <;> decide
abbrev litI (a : Int) : DataW Unit := .lit (.int .i64 a)
abbrev longM : DataW Unit := ((((DataW.map []).put (.int .i64 1) (litI 1)).put (.int .i64 2) (litI 7)).put (.int .i64 3) (litI 31)).put (.int .i64 4) (litI 366)
theorem longM_at {a0 c : Int} (ha : 1 ≤ a0 ∧ a0 ≤ 4) (h : longM.atKey (.int .i64 a0) (.lit (.int .i64 0)) = .lit (.int .i64 c)) : c = longZ a0 := by
  have ha' : a0 = 1 ∨ a0 = 2 ∨ a0 = 3 ∨ a0 = 4 := by omega
  rcases ha' with rfl | rfl | rfl | rfl
  all_goals
    have h2 : litI _ = litI c := h
    injection h2 with h3
    injection h3 with h4 h5
    rw [← h5]
    rfl
set_option maxHeartbeats 4000000 in
set_option maxRecDepth 100000 in
/-- first, where a stamp lies behind the start. -/
theorem first_pos {w0 w : World} {g : Nat} {a0 a1 a2 a3 a8 : Int} {A4 A5 A6 A7 : Option Addr} {c4 c5 c6 c7 : Nat} {l4 l5 l7 : List Int} {l6 : List S58} {day sy sm sd mi : Int} (frm : Int) (hW : Wk0 w0 w g a0 a1 a2 a3 a8 A4 A5 A6 A7 c4 c5 c6 c7 l4 l5 l7 l6 day sy sm sd mi)
    (hf0 : 0 ≤ frm) (hf1 : frm ≤ 158310720) (hd0 : 0 ≤ day) (hd1 : day ≤ 109938) (ha0 : 1 ≤ a0 ∧ a0 ≤ 4) (ha1 : 1 ≤ a1 ∧ a1 ≤ 999) (h2 : ¬ 0 < a2) (h : day < frm / 1440) :
    Calls Try.prog 16 #[.pointer (some ⟨g, 0, none⟩), .int .i64 frm] w fun e w' => e = .returned (.int .i64 (firstZ a0 a1 (frm / 1440 - day))) ∧ Below w.heap.size w w' := by
  have q0 := cell_eq (blk_cell hW.hg 0) rfl
  have q1 := cell_eq (blk_cell hW.hg 1) rfl
  have q2 := cell_eq (blk_cell hW.hg 2) rfl
  have q9 := cell_eq (blk_cell hW.hg 9) rfl
  have HG := Lib.hid hW.hg
  clear hW
  have ht : Int.tdiv frm 1440 = frm / 1440 := Int.tdiv_eq_ediv_of_nonneg hf0
  obtain ⟨t, hft⟩ : ∃ t, t = frm / 1440 := ⟨_, rfl⟩
  have hft0 : 0 ≤ t ∧ t ≤ 109938 := by omega
  rw [← hft] at ht h ⊢
  clear hft hf0 hf1
  have w1 : wrap64 t = t := IntWalk.wrap64_in _ (by omega)
  have w2 : wrap64 (t - day) = t - day := by clear w1; exact IntWalk.wrap64_in _ (by omega)
  have hg0 : 0 < t - day ∧ t - day ≤ 109938 := by clear w1 w2; omega
  have hgle : ¬ t - day ≤ 0 := by clear w1 w2; omega
  have HG0 := Lib.hid hg0
  clear h hg0
  go_enter Try.func16, Try.ntmps16
  go_upto_region 4 with (fail)
  clear w1 w2 hgle ht q2 q9 h2
  obtain ⟨gn, hgn⟩ : ∃ x, x = t - day := ⟨_, rfl⟩
  have hgb : 0 < gn ∧ gn ≤ 109938 := by rw [hgn]; exact HG0.out
  rw [← hgn]
  have HGN := Lib.hid hgn
  clear hgn hft0 HG0
  obtain ⟨lg, hlg⟩ : ∃ x, x = longZ a0 := ⟨_, rfl⟩
  have hlb : 1 ≤ lg ∧ lg ≤ 366 := by rw [hlg]; unfold longZ; repeat' split <;> omega
  obtain ⟨dn, hdn⟩ : ∃ x, x = lg * a1 := ⟨_, rfl⟩
  have hdb : 1 ≤ dn ∧ dn ≤ 366 * 999 := by
    rw [hdn]
    have h1 : 1 * 1 ≤ lg * a1 := Int.mul_le_mul hlb.1 ha1.1 (by omega) (by omega)
    have h2 : lg * a1 ≤ 366 * 999 := Int.mul_le_mul hlb.2 ha1.2 (by omega) (by omega)
    omega
  obtain ⟨qq, hqq⟩ : ∃ x, x = gn / dn := ⟨_, rfl⟩
  have hqb : 0 ≤ qq ∧ qq ≤ 109938 := by
    rw [hqq]
    exact ⟨Int.ediv_nonneg (by omega) (by omega), Int.le_trans (Int.ediv_le_self _ (by omega)) hgb.2⟩
  have k1 : wrap64 (lg * a1) = dn := by rw [← hdn]; exact IntWalk.wrap64_in _ (by omega)
  have k2 : Int.tdiv gn dn = qq := by rw [hqq]; exact Int.tdiv_eq_ediv_of_nonneg (by clear k1; omega)
  have k3 : wrap64 qq = qq := by clear k1 k2; exact IntWalk.wrap64_in _ (by omega)
  have k4 : wrap64 (qq - 1) = qq - 1 := by clear k1 k2 k3; exact IntWalk.wrap64_in _ (by omega)
  have hdn0 : ¬ dn = 0 := by clear k1 k2 k3 k4; omega
  have HFZ : Hid (firstZ a0 a1 gn = if qq - 1 < 0 then 0 else qq - 1) := Lib.hid (by unfold firstZ; rw [hqq, hdn, hlg])
  have HLG := Lib.hid hlg
  clear hlg hdn hqq
  have HM0 : Hid ((w.alloc (.map #[] 0)).ownsMap Try.prog 3 (plainElem (H := Unit) Try.prog 3) w.heap.size 0 (.map [])) := Lib.hid (World.ownsMap_made w Try.prog 3 _)
  have HB0 : Hid (Below w.heap.size w (w.alloc (.map #[] 0))) := Lib.hid below_new_
  have hmm := @run_makeMap Try.prog
  have K : Keyed Try.prog 3 := int_keyed Try.underlying3
  have HZ : Hid (∀ W : World, (zeroValue 3).run Try.prog W = .ok (.int .i64 0) W) := Lib.hid (fun W => by rfl)
  obtain ⟨bm, hbm⟩ : ∃ x, x = w.heap.size := ⟨_, rfl⟩
  go_wp2_with (first
    | (refine wpList_insert_own _ rfl _ _ _ 65 rfl 3 3 K Try.underlying65 _ w.heap.size 0 (.map []) rfl HM0.out (by decide) (.int .i64 1) (.int .i64 1) (.int .i64 1) rfl rfl (keyOf_int_mk Try.underlying3 (wfi (by decide))) (litI 1) [] (plainElem_int Try.underlying3 (wfi (by decide))) ?_; intro w3 hm3 hg3; have HM3 := Lib.hid hm3; have HB3 := Lib.hid (HB0.out.grown hg3 HB0.out.size (fun k e => by cases e; exact Nat.le_refl _)); clear hm3 hg3)
    | (refine wpList_insert_own _ rfl _ _ _ 65 rfl 3 3 K Try.underlying65 _ w.heap.size 1 _ rfl HM3.out (by decide) (.int .i64 2) (.int .i64 7) (.int .i64 2) rfl rfl (keyOf_int_mk Try.underlying3 (wfi (by decide))) (litI 7) [] (plainElem_int Try.underlying3 (wfi (by decide))) ?_; intro w4 hm4 hg4; have HM4 := Lib.hid hm4; have HB4 := Lib.hid (HB3.out.grown hg4 HB3.out.size (fun k e => by cases e; exact Nat.le_refl _)); clear hm4 hg4)
    | (refine wpList_insert_own _ rfl _ _ _ 65 rfl 3 3 K Try.underlying65 _ w.heap.size 2 _ rfl HM4.out (by decide) (.int .i64 3) (.int .i64 31) (.int .i64 3) rfl rfl (keyOf_int_mk Try.underlying3 (wfi (by decide))) (litI 31) [] (plainElem_int Try.underlying3 (wfi (by decide))) ?_; intro w5 hm5 hg5; have HM5 := Lib.hid hm5; have HB5 := Lib.hid (HB4.out.grown hg5 HB4.out.size (fun k e => by cases e; exact Nat.le_refl _)); clear hm5 hg5)
    | (refine wpList_insert_own _ rfl _ _ _ 65 rfl 3 3 K Try.underlying65 _ w.heap.size 3 _ rfl HM5.out (by decide) (.int .i64 4) (.int .i64 366) (.int .i64 4) rfl rfl (keyOf_int_mk Try.underlying3 (wfi (by decide))) (litI 366) [] (plainElem_int Try.underlying3 (wfi (by decide))) ?_; intro w6 hm6 hg6; have HM6 := Lib.hid hm6; have HB6 := Lib.hid (HB5.out.grown hg6 HB5.out.size (fun k e => by cases e; exact Nat.le_refl _)); clear hm6 hg6; have p0 := cell_eq (blk_cell (keep_below HB6.out HG.out) 0) rfl; have p1 := cell_eq (blk_cell (keep_below HB6.out HG.out) 1) rfl; obtain ⟨cc, hrun, hat, hwc⟩ := HM6.out.lookup_int K Try.underlying65 Try.underlying3 (HZ.out w6) (keyOf_int_mk Try.underlying3 (wfi (show a0 = 1 ∨ a0 = 2 ∨ a0 = 3 ∨ a0 = 4 ∨ a0 = 7 ∨ a0 = 31 ∨ a0 = 366 by omega))); obtain rfl : cc = lg := (longM_at ha0 hat).trans HLG.out.symm; clear hat hwc))
  all_goals go_ret
  all_goals refine ⟨?_, HB6.out⟩
  all_goals rw [← HGN.out, HFZ.out]
  · rw [if_pos (by omega)]
    rfl
  · rw [if_neg (by omega)]
    rfl
end Go.Proofs.Ytinjbpbpgogdhaa.Own
end
