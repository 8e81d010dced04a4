import Derived.Test.YtinjbpbpgogdhaaRg1
import Derived.Test.YtinjbpbpgogdhaaOwnx5
import Derived.Test.YtinjbpbpgogdhaaOwnx6
namespace Go.Proofs.Ytinjbpbpgogdhaa.Own
open Go.RowKit Go.Proofs.YtinjbpbpgogdhaaW.PrintWords Go.Proofs.YtinjbpbpgogdhaaW.PrintLast Go.Proofs.YtinjbpbpgogdhaaW.PrintMore
set_option linter.unusedVariables false
set_option linter.unusedSimpArgs false
theorem ref_row_step {l : List Int} {most : Int} {below : Bool} (hl : l.length ≤ 10000) (h0 : 0 ≤ most) (h1 : most ≤ 1000) (k j : Nat) (hj : j < l.length) :
    vespersref09_row.l0 (k + 1) l most below (l.length : Int) (j : Int) = if okN (rd l (j : Int)) most below = true ∧ (j = 0 ∨ rd l ((j : Int) - 1) < rd l (j : Int)) then vespersref09_row.l0 k l most below (l.length : Int) (((j + 1 : Nat)) : Int) else some false := by
  have e1 : wrap64 (-most) = -most := IntWalk.wrap64_in _ (by omega)
  have e2 : wrap64 ((j : Int) - 1) = (j : Int) - 1 := by clear e1; exact IntWalk.wrap64_in _ (by omega)
  have e3 : wrap64 ((j : Int) + 1) = ((j + 1 : Nat) : Int) := by clear e1 e2; exact IntWalk.wrap64_in _ (by omega)
  generalize hZ : vespersref09_row.l0 k l most below (l.length : Int) (((j + 1 : Nat)) : Int) = Z
  unfold vespersref09_row.l0
  rw [e1, e2, e3, hZ]
  clear e1 e2 e3
  rw [if_pos (by omega), if_pos (by omega), if_pos (by omega)]
  generalize rd l (j : Int) = x
  generalize rd l ((j : Int) - 1) = y
  by_cases c1 : x > most
  · rw [if_pos c1, if_neg (fun h => by have := h.1; unfold okN at this; simp at this; omega)]
  rw [if_neg c1]
  by_cases c2 : x < -most
  · rw [if_pos c2, if_neg (fun h => by have := h.1; unfold okN at this; simp at this; omega)]
  rw [if_neg c2]
  by_cases c3 : x = 0
  · rw [if_pos c3, if_neg (fun h => by have := h.1; unfold okN at this; simp at this; omega)]
  rw [if_neg c3]
  have rest : (if (j : Int) > 0 then (if 0 ≤ (j : Int) - 1 then (if (j : Int) - 1 < (l.length : Int) then (if y ≥ x then (some false) else Z) else (none)) else (none)) else Z) = if (j = 0 ∨ y < x) then Z else some false := by
    by_cases c5 : j = 0
    · rw [if_neg (by omega), if_pos (.inl c5)]
    · rw [if_pos (by omega), if_pos (by omega), if_pos (by omega)]
      by_cases c6 : y ≥ x
      · rw [if_pos c6, if_neg (by rintro (h | h) <;> omega)]
      · rw [if_neg c6, if_pos (.inr (by omega))]
  cases below with
  | true =>
    rw [if_pos rfl, rest]
    have hok : okN x most true = true := by unfold okN; simp; omega
    by_cases c7 : j = 0 ∨ y < x
    · rw [if_pos c7, if_pos ⟨hok, c7⟩]
    · rw [if_neg c7, if_neg (fun h => c7 h.2)]
  | false =>
    rw [if_neg (by simp)]
    by_cases c4 : x < 0
    · rw [if_pos c4, if_neg (fun h => by have := h.1; unfold okN at this; simp at this; omega)]
    rw [if_neg c4, rest]
    have hok : okN x most false = true := by unfold okN; simp; omega
    by_cases c7 : j = 0 ∨ y < x
    · rw [if_pos c7, if_pos ⟨hok, c7⟩]
    · rw [if_neg c7, if_neg (fun h => c7 h.2)]
theorem ref_row_l0 {l : List Int} {most : Int} {below : Bool} (hl : l.length ≤ 10000) (h0 : 0 ≤ most) (h1 : most ≤ 1000) : ∀ (k j : Nat), l.length < j + k → j ≤ l.length → (∀ i : Nat, i < j → okN (rd l (i : Int)) most below = true) → (∀ i : Nat, i + 1 < j → rd l (i : Int) < rd l ((i + 1 : Nat) : Int)) →
    vespersref09_row.l0 k l most below (l.length : Int) (j : Int) = some (rowB l most below)
  | 0, j, h, h2, _, _ => by omega
  | k + 1, j, h, h2, h3, h4 => by
    by_cases hj : j < l.length
    · rw [ref_row_step hl h0 h1 k j hj]
      split
      · rename_i hc
        refine ref_row_l0 hl h0 h1 k (j + 1) (by omega) (by omega) ?_ ?_
        · intro i hi
          by_cases e : i = j
          · rw [e]; exact hc.1
          · exact h3 i (by omega)
        · intro i hi
          by_cases e : i + 1 = j
          · rcases hc.2 with h5 | h5
            · omega
            · have e' : (i : Int) = (j : Int) - 1 := by omega
              rw [e', e]
              exact h5
          · exact h4 i (by omega)
      · rename_i hc
        congr 1
        symm
        unfold rowB
        by_cases ho : okN (rd l (j : Int)) most below = true
        · have hr : ¬ (rd l ((j : Int) - 1) < rd l (j : Int)) ∧ j ≠ 0 := ⟨fun h => hc ⟨ho, .inr h⟩, fun h => hc ⟨ho, .inl h⟩⟩
          have : riseI l = false := by
            unfold riseI
            refine decide_eq_false (fun hp => hr.1 ?_)
            have := hp (j - 1) (by omega)
            have e1 : ((j - 1 : Nat) : Int) = (j : Int) - 1 := by omega
            have e2 : ((j - 1 + 1 : Nat) : Int) = (j : Int) := by omega
            simpa [ltI, e1, e2] using this
          rw [this, Bool.and_false]
        · have : decide (∀ i : Nat, i < l.length → okN (rd l (i : Int)) most below = true) = false := decide_eq_false (fun hp => ho (hp j hj))
          rw [this, Bool.false_and]
    · have hj' : j = l.length := by omega
      unfold vespersref09_row.l0
      rw [if_neg (by omega)]
      congr 1
      symm
      unfold rowB riseI
      rw [Bool.and_eq_true]
      refine ⟨decide_eq_true (fun i hi => h3 i (by omega)), decide_eq_true (fun i hi => ?_)⟩
      have := h4 i (by omega)
      simpa [ltI] using this
theorem ref_row_f {l : List Int} {most : Int} {below : Bool} (hl : l.length ≤ 10000) (h0 : 0 ≤ most) (h1 : most ≤ 1000) (k : Nat) (hk : l.length < k) : vespersref09_row.f k l most below = some (rowB l most below) :=
  ref_row_l0 hl h0 h1 k 0 (by omega) (Nat.zero_le _) (fun i hi => by omega) (fun i hi => by omega)
theorem ref_days_step {a0 a1 a2 a3 a8 : Int} {l4 l5 l7 : List Int} {l6 : List S58} (ha : 1 ≤ a0 ∧ a0 ≤ 4) (hl : l6.length ≤ 10000) (k j : Nat) (hj : j < l6.length) :
    vespersref09_days.l0 (k + 3) (l6.length : Int) (j : Int) a0 a1 a2 a3 l4 l5 l6 l7 a8 = if okD (rd_T58 l6 (j : Int)) (nthB a0 l4) = true ∧ (j = 0 ∨ lessD (rd_T58 l6 ((j : Int) - 1)) (rd_T58 l6 (j : Int)) = true) then vespersref09_days.l0 k (l6.length : Int) (((j + 1 : Nat)) : Int) a0 a1 a2 a3 l4 l5 l6 l7 a8 else some false := by
  have e2 : wrap64 ((j : Int) - 1) = (j : Int) - 1 := IntWalk.wrap64_in _ (by omega)
  have e3 : wrap64 ((j : Int) + 1) = ((j + 1 : Nat) : Int) := by clear e2; exact IntWalk.wrap64_in _ (by omega)
  generalize hZ : vespersref09_days.l0 k (l6.length : Int) (((j + 1 : Nat)) : Int) a0 a1 a2 a3 l4 l5 l6 l7 a8 = Z
  -- the last part: does it stand behind the one ahead?
  have J2 : ∀ x y : Int, vespersref09_days.j2 (k + 1) (j : Int) (l6.length : Int) (j : Int) false a0 a1 a2 a3 l4 l5 l6 l7 a8 x y = if (j = 0 ∨ lessD (rd_T58 l6 ((j : Int) - 1)) ⟨x, y⟩ = true) then Z else some false := by
    intro x y
    unfold vespersref09_days.j2
    rw [e2, e3, hZ, if_neg (by simp)]
    clear e2 e3
    by_cases c5 : j = 0
    · rw [if_neg (by omega), if_pos (.inl c5)]
    · rw [if_pos (by omega), if_pos (by omega), if_pos (by omega)]
      generalize rd_T58 l6 ((j : Int) - 1) = p
      by_cases c6 : p.f0 > x
      · rw [if_pos c6, if_neg]
        rintro (h | h)
        · exact c5 h
        · unfold lessD at h
          simp at h
          omega
      rw [if_neg c6]
      by_cases c7 : p.f0 = x
      · rw [if_pos c7]
        by_cases c8 : p.f1 ≥ y
        · rw [if_pos c8, if_neg]
          rintro (h | h)
          · exact c5 h
          · unfold lessD at h
            simp at h
            omega
        · rw [if_neg c8, if_pos]
          refine .inr ?_
          unfold lessD
          simp
          omega
      · rw [if_neg c7, if_pos]
        refine .inr ?_
        unfold lessD
        simp
        omega
  have J2t : ∀ x y : Int, vespersref09_days.j2 (k + 1) (j : Int) (l6.length : Int) (j : Int) true a0 a1 a2 a3 l4 l5 l6 l7 a8 x y = some false := by
    intro x y
    unfold vespersref09_days.j2
    rw [if_pos rfl]
  have J1 : ∀ x y : Int, vespersref09_days.j1 (k + 2) (j : Int) (l6.length : Int) (j : Int) false a0 a1 a2 a3 l4 l5 l6 l7 a8 x y = if (x = 0 ∨ nthB a0 l4 = true) ∧ (j = 0 ∨ lessD (rd_T58 l6 ((j : Int) - 1)) ⟨x, y⟩ = true) then Z else some false := by
    intro x y
    unfold vespersref09_days.j1
    rw [J2, J2t, if_neg (by simp)]
    by_cases c1 : x = 0
    · rw [if_pos c1]
      by_cases c7 : (j = 0 ∨ lessD (rd_T58 l6 ((j : Int) - 1)) ⟨x, y⟩ = true)
      · rw [if_pos c7, if_pos ⟨.inl c1, c7⟩]
      · rw [if_neg c7, if_neg (fun h => c7 h.2)]
    rw [if_neg c1]
    by_cases c2 : a0 < 3
    · rw [if_pos c2, if_neg]
      rintro ⟨h | h, _⟩
      · exact c1 h
      · unfold nthB at h
        simp at h
        omega
    rw [if_neg c2]
    by_cases c3 : a0 = 4
    · rw [if_pos c3]
      by_cases c4 : (l4.length : Int) = 0
      · rw [show ((l4.length : Int) == 0) = true from by rw [c4]; rfl, J2t, if_neg]
        rintro ⟨h | h, _⟩
        · exact c1 h
        · unfold nthB at h
          simp at h
          omega
      · rw [show ((l4.length : Int) == 0) = false from by rw [Bool.eq_false_iff]; intro h; exact c4 (eq_of_beq h), J2]
        have hn : nthB a0 l4 = true := by unfold nthB; simp; omega
        by_cases c7 : (j = 0 ∨ lessD (rd_T58 l6 ((j : Int) - 1)) ⟨x, y⟩ = true)
        · rw [if_pos c7, if_pos ⟨.inr hn, c7⟩]
        · rw [if_neg c7, if_neg (fun h => c7 h.2)]
    · rw [if_neg c3]
      have hn : nthB a0 l4 = true := by unfold nthB; simp; omega
      by_cases c7 : (j = 0 ∨ lessD (rd_T58 l6 ((j : Int) - 1)) ⟨x, y⟩ = true)
      · rw [if_pos c7, if_pos ⟨.inr hn, c7⟩]
      · rw [if_neg c7, if_neg (fun h => c7 h.2)]
  have J1t : ∀ x y : Int, vespersref09_days.j1 (k + 2) (j : Int) (l6.length : Int) (j : Int) true a0 a1 a2 a3 l4 l5 l6 l7 a8 x y = some false := by
    intro x y
    unfold vespersref09_days.j1
    rw [if_pos rfl]
  unfold vespersref09_days.l0
  rw [if_pos (by omega), if_pos (by omega), if_pos (by omega)]
  clear e2 e3
  have hp : rd_T58 l6 (j : Int) = ⟨(rd_T58 l6 (j : Int)).f0, (rd_T58 l6 (j : Int)).f1⟩ := rfl
  generalize rd_T58 l6 (j : Int) = d at hp ⊢
  have hd : okD d (nthB a0 l4) = true ↔ ((0 ≤ d.f1 ∧ d.f1 ≤ 6 ∧ -5 ≤ d.f0 ∧ d.f0 ≤ 5) ∧ (d.f0 = 0 ∨ nthB a0 l4 = true)) := by
    unfold okD
    cases nthB a0 l4 <;> simp <;> omega
  by_cases c1 : d.f1 < 0
  · rw [if_pos c1, J1t, if_neg]
    intro h
    have := (hd.1 h.1).1
    omega
  rw [if_neg c1]
  by_cases c2 : d.f1 > 6
  · rw [if_pos c2, J1t, if_neg]
    intro h
    have := (hd.1 h.1).1
    omega
  rw [if_neg c2]
  by_cases c3 : d.f0 < -5
  · rw [if_pos c3, J1t, if_neg]
    intro h
    have := (hd.1 h.1).1
    omega
  rw [if_neg c3]
  by_cases c4 : d.f0 > 5
  · rw [show decide (d.f0 > 5) = true from decide_eq_true c4, J1t, if_neg]
    intro h
    have := (hd.1 h.1).1
    omega
  rw [show decide (d.f0 > 5) = false from decide_eq_false c4, J1]
  by_cases c7 : (d.f0 = 0 ∨ nthB a0 l4 = true) ∧ (j = 0 ∨ lessD (rd_T58 l6 ((j : Int) - 1)) ⟨d.f0, d.f1⟩ = true)
  · rw [if_pos c7, if_pos ⟨hd.2 ⟨⟨by omega, by omega, by omega, by omega⟩, c7.1⟩, c7.2⟩]
  · rw [if_neg c7, if_neg (fun h => c7 ⟨(hd.1 h.1).2, h.2⟩)]
theorem ref_days_l0 {a0 a1 a2 a3 a8 : Int} {l4 l5 l7 : List Int} {l6 : List S58} (ha : 1 ≤ a0 ∧ a0 ≤ 4) (hl : l6.length ≤ 10000) : ∀ (n k j : Nat), l6.length ≤ j + n → 3 * n < k → j ≤ l6.length → (∀ i : Nat, i < j → okD (rd_T58 l6 (i : Int)) (nthB a0 l4) = true) → (∀ i : Nat, i + 1 < j → lessD (rd_T58 l6 (i : Int)) (rd_T58 l6 ((i + 1 : Nat) : Int)) = true) →
    vespersref09_days.l0 k (l6.length : Int) (j : Int) a0 a1 a2 a3 l4 l5 l6 l7 a8 = some (daysB a0 l4 l6)
  | n, k, j, h, hk, h2, h3, h4 => by
    by_cases hj : j < l6.length
    · obtain ⟨n', rfl⟩ : ∃ n', n = n' + 1 := ⟨n - 1, by omega⟩
      obtain ⟨k', rfl⟩ : ∃ k', k = k' + 3 := ⟨k - 3, by omega⟩
      rw [ref_days_step ha hl k' j hj]
      split
      · rename_i hc
        refine ref_days_l0 ha hl n' k' (j + 1) (by omega) (by omega) (by omega) ?_ ?_
        · intro i hi
          by_cases e : i = j
          · rw [e]; exact hc.1
          · exact h3 i (by omega)
        · intro i hi
          by_cases e : i + 1 = j
          · rcases hc.2 with h5 | h5
            · omega
            · have e' : (i : Int) = (j : Int) - 1 := by omega
              rw [e', e]
              exact h5
          · exact h4 i (by omega)
      · rename_i hc
        congr 1
        symm
        unfold daysB
        by_cases ho : okD (rd_T58 l6 (j : Int)) (nthB a0 l4) = true
        · have hr : ¬ (lessD (rd_T58 l6 ((j : Int) - 1)) (rd_T58 l6 (j : Int)) = true) ∧ j ≠ 0 := ⟨fun h => hc ⟨ho, .inr h⟩, fun h => hc ⟨ho, .inl h⟩⟩
          have : riseD l6 = false := by
            unfold riseD
            refine decide_eq_false (fun hp => hr.1 ?_)
            have := hp (j - 1) (by omega)
            have e1 : ((j - 1 : Nat) : Int) = (j : Int) - 1 := by omega
            have e2 : ((j - 1 + 1 : Nat) : Int) = (j : Int) := by omega
            simpa only [e1, e2] using this
          rw [this, Bool.and_false]
        · have : decide (∀ i : Nat, i < l6.length → okD (rd_T58 l6 (i : Int)) (nthB a0 l4) = true) = false := decide_eq_false (fun hp => ho (hp j hj))
          rw [this, Bool.false_and]
    · have hj' : j = l6.length := by omega
      obtain ⟨k', rfl⟩ : ∃ k', k = k' + 1 := ⟨k - 1, by omega⟩
      unfold vespersref09_days.l0
      rw [if_neg (by omega)]
      congr 1
      symm
      unfold daysB riseD
      rw [Bool.and_eq_true]
      exact ⟨decide_eq_true (fun i hi => h3 i (by omega)), decide_eq_true (fun i hi => h4 i (by omega))⟩
  termination_by n => n
theorem ref_days_f {a0 a1 a2 a3 a8 : Int} {l4 l5 l7 : List Int} {l6 : List S58} (ha : 1 ≤ a0 ∧ a0 ≤ 4) (hl : l6.length ≤ 10000) (k : Nat) (hk : 3 * l6.length < k) : vespersref09_days.f k a0 a1 a2 a3 l4 l5 l6 l7 a8 = some (daysB a0 l4 l6) :=
  ref_days_l0 ha hl l6.length k 0 (by omega) hk (Nat.zero_le _) (fun i hi => by omega) (fun i hi => by omega)
/-- The reference's May tells what the program's does. -/
theorem ref_May_told {a0 a1 a2 a3 a8 : Int} {l4 l5 l7 : List Int} {l6 : List S58} (h4 : l4.length ≤ 1000) (h5 : l5.length ≤ 1000) (h6 : l6.length ≤ 1000) (h7 : l7.length ≤ 1000) (k : Nat) (hk : 3100 ≤ k) : vespersref09_May.f k a0 a1 a2 a3 l4 l5 l6 l7 a8 = some (mayB a0 a1 a2 a3 l4 l5 l6 l7 a8) := by
  obtain ⟨k, rfl⟩ : ∃ k', k = k' + 3 := ⟨k - 3, by omega⟩
  have J0t : vespersref09_May.j0 (k + 3) true a0 a1 a2 a3 l4 l5 l6 l7 a8 = some false := by
    rw [vespersref09_May.j0, if_pos rfl]
  have J1t : vespersref09_May.j1 (k + 2) true a0 a1 a2 a3 l4 l5 l6 l7 a8 = some false := by
    rw [vespersref09_May.j1, if_pos rfl]
  have J2t : vespersref09_May.j2 (k + 1) true a0 a1 a2 a3 l4 l5 l6 l7 a8 = some false := by
    rw [vespersref09_May.j2, if_pos rfl]
  have J2 : vespersref09_May.j2 (k + 1) false a0 a1 a2 a3 l4 l5 l6 l7 a8 = some ((!decide (a0 = 2) || decide (l5.length = 0)) && (decide (0 < l4.length + l5.length + l6.length) || decide (l7.length = 0))) := by
    rw [vespersref09_May.j2, if_neg (by simp)]
    repeat' split
    all_goals congr 1
    all_goals rw [Bool.eq_iff_iff]
    all_goals simp only [Bool.and_eq_true, Bool.or_eq_true, Bool.not_eq_true', decide_eq_true_eq, decide_eq_false_iff_not, true_iff, Bool.false_eq_true, false_iff]
    all_goals omega
  have J1 : 1 ≤ a0 ∧ a0 ≤ 4 → vespersref09_May.j1 (k + 2) false a0 a1 a2 a3 l4 l5 l6 l7 a8 = some (rowB l4 12 false && rowB l5 31 true && ((!decide (a0 = 2) || decide (l5.length = 0))) && daysB a0 l4 l6 && rowB l7 366 true && (decide (0 < l4.length + l5.length + l6.length) || decide (l7.length = 0))) := by
    intro ha
    rw [vespersref09_May.j1, if_neg (by simp), ref_row_f (by omega) (by decide) (by decide) _ (by omega), ref_row_f (by omega) (by decide) (by decide) _ (by omega), ref_row_f (by omega) (by decide) (by decide) _ (by omega), ref_days_f ha (by omega) _ (by omega), J2t]
    simp only [Option.bind_some]
    cases rowB l4 12 false <;> cases rowB l5 31 true <;> cases rowB l7 366 true <;> cases daysB a0 l4 l6 <;> simp [J2, J2t]
  unfold mayB
  have hend : ∀ b : Bool, endsB a2 a3 = b → True := fun _ _ => trivial
  unfold vespersref09_May.f
  by_cases c1 : a0 < 1
  · rw [if_pos c1, J0t, show decide (1 ≤ a0) = false from decide_eq_false (by omega)]
    simp
  rw [if_neg c1]
  by_cases c2 : a0 > 4
  · rw [if_pos c2, J0t, show decide (a0 ≤ 4) = false from decide_eq_false (by omega)]
    simp
  rw [if_neg c2]
  by_cases c3 : a1 < 1
  · rw [if_pos c3, J0t, show decide (1 ≤ a1) = false from decide_eq_false (by omega)]
    simp
  rw [if_neg c3]
  by_cases c4 : a1 > 999
  · rw [if_pos c4, J0t, show decide (a1 ≤ 999) = false from decide_eq_false (by omega)]
    simp
  rw [if_neg c4]
  by_cases c5 : a2 < 0
  · rw [if_pos c5, J0t, show endsB a2 a3 = false from if_pos c5]
    simp
  rw [if_neg c5]
  by_cases c6 : a2 > 5000
  · rw [if_pos c6, J0t, show endsB a2 a3 = false from (if_neg c5).trans (if_pos c6)]
    simp
  rw [if_neg c6]
  by_cases c7 : a8 < 0
  · rw [if_pos c7, J0t, show decide (0 ≤ a8) = false from decide_eq_false (by omega)]
    simp
  rw [if_neg c7]
  by_cases c8 : a8 > 6
  · rw [show decide (a8 > 6) = true from decide_eq_true c8, J0t, show decide (a8 ≤ 6) = false from decide_eq_false (by omega)]
    simp
  rw [show decide (a8 > 6) = false from decide_eq_false c8, vespersref09_May.j0, if_neg (by simp), J1 ⟨by omega, by omega⟩, J1t]
  rw [show decide (1 ≤ a0) = true from decide_eq_true (by omega), show decide (a0 ≤ 4) = true from decide_eq_true (by omega), show decide (1 ≤ a1) = true from decide_eq_true (by omega), show decide (a1 ≤ 999) = true from decide_eq_true (by omega), show decide (0 ≤ a8) = true from decide_eq_true (by omega), show decide (a8 ≤ 6) = true from decide_eq_true (by omega)]
  by_cases d1 : a3 = -1
  · rw [if_pos d1, show endsB a2 a3 = true from (if_neg c5).trans ((if_neg c6).trans (if_pos d1))]
    simp
  rw [if_neg d1]
  by_cases d2 : a3 < 0
  · rw [if_pos d2, show endsB a2 a3 = false from (if_neg c5).trans ((if_neg c6).trans ((if_neg d1).trans (if_neg (by omega))))]
    simp
  rw [if_neg d2]
  by_cases d3 : a3 ≥ 158310720
  · rw [if_pos d3, show endsB a2 a3 = false from (if_neg c5).trans ((if_neg c6).trans ((if_neg d1).trans ((if_pos (by omega)).trans (if_neg (by omega)))))]
    simp
  rw [if_neg d3, show endsB a2 a3 = (a2 == 0) from (if_neg c5).trans ((if_neg c6).trans ((if_neg d1).trans ((if_pos (by omega)).trans (if_pos (by omega)))))]
  by_cases d4 : a2 > 0
  · rw [show decide (a2 > 0) = true from decide_eq_true d4, J1t, show (a2 == 0) = false from by rw [Bool.eq_false_iff]; intro h; have := eq_of_beq h; omega]
    simp
  · have d5 : a2 = 0 := by omega
    rw [show decide (a2 > 0) = false from decide_eq_false d4, J1 ⟨by omega, by omega⟩, show (a2 == 0) = true from by rw [d5]; rfl]
    simp
end Go.Proofs.Ytinjbpbpgogdhaa.Own
