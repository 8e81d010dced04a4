import Derived.Test.YtinjbpbpgogdhaaRg2
namespace Go.Proofs.Ytinjbpbpgogdhaa.Own
open Go.RowKit Go.Proofs.YtinjbpbpgogdhaaW.PrintWords Go.Proofs.YtinjbpbpgogdhaaW.PrintLast Go.Proofs.YtinjbpbpgogdhaaW.PrintMore
set_option linter.unusedVariables false
set_option linter.unusedSimpArgs false
theorem dayB_iff {a0 : Int} {l4 l5 : List Int} {l6 : List S58} {day sm sd n : Int} : dayB a0 l4 l5 l6 day sm sd n = true ↔ ∃ Y M D, Ok Y M D ∧ num Y M D = n ∧ rightB l4 l5 l6 n Y M D = true ∧ usualB a0 l4 l5 l6 day sm sd n M D = true := by
  by_cases hn : n < 0 ∨ 109938 ≤ n
  · unfold dayB
    rw [civil_Date_no (by decide) hn]
    refine ⟨fun h => (by cases h), ?_⟩
    rintro ⟨Y, M, D, hok, e, _⟩
    have := num_bd hok
    omega
  · obtain ⟨Y, M, D, hd, hok, hnum⟩ := civil_Date_ok (k := 3000) (by decide) (n := n) (by omega) (by omega)
    have e : dayB a0 l4 l5 l6 day sm sd n = (rightB l4 l5 l6 n Y M D && usualB a0 l4 l5 l6 day sm sd n M D) := by
      unfold dayB
      rw [hd]
    rw [e, Bool.and_eq_true]
    constructor
    · rintro ⟨h1, h2⟩
      exact ⟨Y, M, D, hok, hnum, h1, h2⟩
    · rintro ⟨Y', M', D', hok', hnum', h1, h2⟩
      obtain ⟨rfl, rfl, rfl⟩ := num_inj hok' hok (hnum'.trans hnum.symm)
      exact ⟨h1, h2⟩
theorem num_fix : num 2026 1 31 = 46051 := by decide
theorem num_fix3 : num 2026 3 31 = 46110 := by decide
theorem hasI_one (a x : Int) : hasI [a] x = true ↔ x = a := by
  unfold hasI
  rw [decide_eq_true_eq]
  constructor
  · rintro ⟨i, hi, h⟩
    rw [List.length_singleton] at hi
    rw [show i = 0 from by omega] at h
    exact h.symm
  · rintro rfl
    exact ⟨0, by simp, rfl⟩
theorem fix_P (day sm sd n : Int) : dayB 3 [] [31] [] day sm sd n = true ↔ ∃ Y M, Ok Y M 31 ∧ num Y M 31 = n := by
  rw [dayB_iff]
  have hu : ∀ M D, usualB 3 [] [31] [] day sm sd n M D = true := fun M D => by
    unfold usualB
    rw [if_neg (by simp)]
  constructor
  · rintro ⟨Y, M, D, hok, e, h1, _⟩
    have hl : lenZ Y M = len Y M := by
      unfold lenZ
      rw [civil_Length_f (by decide)]
      rfl
    unfold rightB at h1
    simp only [List.length_nil, decide_true, Bool.true_or, Bool.true_and, Bool.and_true, List.length_singleton, Nat.succ_ne_self, decide_false, Bool.false_or, Bool.or_eq_true, hasI_one] at h1
    have hD : D = 31 := by
      rcases h1 with h1 | h1
      · simpa [hasI_one] using h1
      · have hok' := hok
        obtain ⟨_, _, _, _, _, h6⟩ := hok'
        rw [hl] at h1
        omega
    subst hD
    exact ⟨Y, M, hok, e⟩
  · rintro ⟨Y, M, hok, e⟩
    refine ⟨Y, M, 31, hok, e, ?_, hu _ _⟩
    unfold rightB
    have : hasI [31] 31 = true := (hasI_one _ _).2 rfl
    rw [this]
    simp
theorem fix_enum {Y M : Int} (h : Ok Y M 31) (h1 : 46051 ≤ num Y M 31) (h2 : num Y M 31 < 46051 + 90) : num Y M 31 = 46051 ∨ num Y M 31 = 46110 := by
  have hok := h
  obtain ⟨g1, g2, g3, g4, g5, g6⟩ := h
  have hcb := cm_bd (y := Y) g3 g4
  have hY : Y = 2026 := by
    rw [num_eq g3 g4] at h1 h2
    by_cases c1 : Y < 2026
    · have : eraZ (Y - 1) ≤ eraZ 2024 := by
        by_cases e : Y - 1 = 2024
        · rw [e]; exact Int.le_refl _
        · have := era_mono (show Y - 1 < 2024 by omega)
          omega
      have e2 : eraZ 2024 = 739251 := by decide
      omega
    · by_cases c2 : 2026 < Y
      · have := era_mono (show (2025 : Int) < Y - 1 + 1 by omega)
        have e3 : eraZ 2026 = 739981 := by decide
        have : eraZ 2026 ≤ eraZ (Y - 1) := by
          by_cases e : Y - 1 = 2026
          · rw [e]; exact Int.le_refl _
          · have := era_mono (show 2026 < Y - 1 by omega)
            omega
        omega
      · omega
  subst hY
  have hm : M = 1 ∨ M = 2 ∨ M = 3 ∨ M = 4 ∨ M = 5 ∨ M = 6 ∨ M = 7 ∨ M = 8 ∨ M = 9 ∨ M = 10 ∨ M = 11 ∨ M = 12 := by omega
  rcases hm with rfl | rfl | rfl | rfl | rfl | rfl | rfl | rfl | rfl | rfl | rfl | rfl
  · exact .inl (by decide)
  · exact absurd g6 (by decide)
  · exact .inr (by decide)
  · exact absurd g6 (by decide)
  all_goals exact absurd h2 (by decide)
/-- The chapter's example. -/
theorem fix_plain : bet 0 (66313440 + 129600) 9 [] (timesL 3 1 0 (-1) 0 [] [] (dayB 3 [] [31] [] 46051 1 31) 46051 2026 1 0 0) = ([66313440, 66398400], true) := by
  have hmem : ∀ x, x ∈ timesL 3 1 0 (-1) 0 [] [] (dayB 3 [] [31] [] 46051 1 31) 46051 2026 1 0 0 ↔ _ := fun x => times_mem (x := x) (by decide) (by decide) (by decide) (by decide) (by decide)
  have hA : Asc (timesL 3 1 0 (-1) 0 [] [] (dayB 3 [] [31] [] 46051 1 31) 46051 2026 1 0 0) := asc_times (by decide) (by decide) (by decide) (by decide)
  have pl : ∀ l, placesL [] l = l := fun l => if_pos rfl
  have hT : (timesL 3 1 0 (-1) 0 [] [] (dayB 3 [] [31] [] 46051 1 31) 46051 2026 1 0 0).takeWhile (fun y => decide (y < 66313440 + 129600)) = [66313440, 66398400] := by
    refine asc_ext _ _ (List.Pairwise.sublist (List.takeWhile_sublist _) hA) (by simp) (fun x => ?_)
    rw [tw_mem hA, hmem]
    constructor
    · rintro ⟨⟨j, _, n, hn, h1, rfl⟩, h2⟩
      rw [pl] at hn
      obtain ⟨Y, M, hok, e⟩ := (fix_P _ _ _ _).1 (periodL_P hn)
      rcases fix_enum hok (by omega) (by omega) with h | h
      · rw [h] at e
        rw [← e]
        simp
      · rw [h] at e
        rw [← e]
        simp
    · intro hx
      have per : ∀ (st m n : Int), (12 * 2026 + 1 - 1 + st) / 12 = 2026 → (12 * 2026 + 1 - 1 + st) % 12 + 1 = m → Ok 2026 m 31 → num 2026 m 31 = n → num 2026 m 1 ≤ n → n < num 2026 m 1 + len 2026 m → (periodL 3 0 [] (dayB 3 [] [31] [] 46051 1 31) 46051 2026 1 st).2 = true ∧ n ∈ (periodL 3 0 [] (dayB 3 [] [31] [] 46051 1 31) 46051 2026 1 st).1 := by
        intro st m n e1 e2 hok e3 h1 h2
        unfold periodL
        rw [if_neg (by decide), if_neg (by decide), if_pos rfl, e1, e2]
        refine ⟨(rfl : decide ((2026 : Int) ≤ 2200) = true), monthL_mem.2 (.inr ⟨⟨⟨hok.1, hok.2.1, hok.2.2.1, hok.2.2.2.1, by decide, by have := hok.2.2.2.2.2; omega⟩, .inl rfl⟩, (fix_P _ _ _ _).2 ⟨2026, m, hok, e3⟩, h1, h2⟩)⟩
      rcases List.mem_cons.1 hx with rfl | hx
      · refine ⟨⟨0, ?_⟩, by decide⟩
        obtain ⟨p1, p2⟩ := per 0 1 46051 (by decide) (by decide) (by unfold Ok; decide) (by decide) (by decide) (by decide)
        refine ⟨p1, 46051, by rw [pl]; exact p2, by decide, by decide⟩
      · have hx' : x = 66398400 := by simpa using hx
        subst hx'
        refine ⟨⟨2, ?_⟩, by decide⟩
        obtain ⟨p1, p2⟩ := per 2 3 46110 (by decide) (by decide) (by unfold Ok; decide) (by decide) (by decide) (by decide)
        refine ⟨p1, 46110, by rw [pl]; exact p2, by decide, by decide⟩
  rw [bet_eq _ [] (fun x hx => by
    obtain ⟨j, _, n, _, h1, rfl⟩ := (hmem x).1 hx
    omega) (by rw [hT]; decide), hT]
  rfl
end Go.Proofs.Ytinjbpbpgogdhaa.Own
