import Derived.Test.YtinjbpbpgogdhaaRe0
namespace Go.Proofs.Ytinjbpbpgogdhaa.Own
open Go.RowKit Go.Proofs.YtinjbpbpgogdhaaW.PrintWords Go.Proofs.YtinjbpbpgogdhaaW.PrintLast Go.Proofs.YtinjbpbpgogdhaaW.PrintMore
set_option linter.unusedVariables false
set_option linter.unusedSimpArgs false
theorem daysL_mem {P : Int → Bool} {n x : Int} : ∀ k : Nat, x ∈ daysL P k n ↔ (P x = true ∧ n ≤ x ∧ x < n + k)
  | 0 => by
    refine ⟨fun h => (by cases h), fun h => by omega⟩
  | k + 1 => by
    show x ∈ daysL P k n ++ (if P (n + (k : Int)) = true then [n + (k : Int)] else []) ↔ _
    rw [List.mem_append, daysL_mem k]
    constructor
    · rintro (h | h)
      · exact ⟨h.1, h.2.1, by omega⟩
      · split at h
        · rename_i hp
          have : x = n + (k : Int) := by simpa using h
          rw [this]
          exact ⟨hp, by omega, by omega⟩
        · cases h
    · rintro ⟨h1, h2, h3⟩
      by_cases e : x = n + (k : Int)
      · right
        rw [e] at h1
        rw [if_pos h1, e]
        exact List.mem_singleton.2 rfl
      · exact .inl ⟨h1, h2, by omega⟩
theorem daysF_mem {P : Int → Bool} {fr x : Int} {many : Nat} : x ∈ daysF P fr many ↔ (P x = true ∧ 0 ≤ x ∧ fr ≤ x ∧ x < fr + many) := by
  unfold daysF
  rw [daysL_mem]
  constructor
  · rintro ⟨h1, h2, h3⟩
    split at h2 <;> split at h3 <;> exact ⟨h1, by omega, by omega, by omega⟩
  · rintro ⟨h1, h2, h3, h4⟩
    refine ⟨h1, ?_, ?_⟩
    · split <;> omega
    · split <;> omega
theorem monthL_mem {P : Int → Bool} {l4 xs : List Int} {y m x : Int} : x ∈ monthL P l4 xs y m ↔ (x ∈ xs ∨ ((Ok y m 1 ∧ (l4.length = 0 ∨ hasI l4 m = true)) ∧ P x = true ∧ num y m 1 ≤ x ∧ x < num y m 1 + len y m)) := by
  have hl := len_bd y m
  unfold monthL
  split
  · rename_i h
    rw [List.mem_append, daysL_mem, Int.toNat_of_nonneg hl.1]
    exact ⟨fun h' => h'.imp id (fun a => ⟨h, a⟩), fun h' => h'.imp id (fun a => a.2)⟩
  · rename_i h
    exact ⟨.inl, fun h' => h'.elim id (fun a => (h a.1).elim)⟩
theorem yearL_mem {P : Int → Bool} {l4 : List Int} {y x : Int} : ∀ k, x ∈ yearL P l4 y k ↔ ∃ m : Nat, m < k ∧ (Ok y ((m : Int) + 1) 1 ∧ (l4.length = 0 ∨ hasI l4 ((m : Int) + 1) = true)) ∧ P x = true ∧ num y ((m : Int) + 1) 1 ≤ x ∧ x < num y ((m : Int) + 1) 1 + len y ((m : Int) + 1)
  | 0 => by
    refine ⟨fun h => (by cases h), ?_⟩
    rintro ⟨m, hm, _⟩
    omega
  | k + 1 => by
    show x ∈ monthL P l4 (yearL P l4 y k) y ((k : Int) + 1) ↔ _
    rw [monthL_mem, yearL_mem k]
    constructor
    · rintro (⟨m, h1, h2⟩ | h)
      · exact ⟨m, by omega, h2⟩
      · exact ⟨k, by omega, h⟩
    · rintro ⟨m, h1, h2⟩
      by_cases e : m = k
      · exact .inr (e ▸ h2)
      · exact .inl ⟨m, by omega, h2⟩
theorem periodL_P {a0 a8 : Int} {l4 : List Int} {P : Int → Bool} {day sy sm st x : Int} (h : x ∈ (periodL a0 a8 l4 P day sy sm st).1) : P x = true := by
  unfold periodL at h
  split at h
  · exact (daysF_mem.1 h).1
  · split at h
    · exact (daysF_mem.1 h).1
    · split at h
      · rcases monthL_mem.1 h with h | h
        · cases h
        · exact h.2.1
      · obtain ⟨m, _, _, h, _⟩ := (yearL_mem _).1 h
        exact h
theorem dayB_bd {a0 : Int} {l4 l5 : List Int} {l6 : List S58} {day sm sd n : Int} (h : dayB a0 l4 l5 l6 day sm sd n = true) : 0 ≤ n ∧ n < 109938 := by
  by_cases hn : n < 0 ∨ 109938 ≤ n
  · unfold dayB at h
    rw [civil_Date_no (by decide) hn] at h
    cases h
  · omega
theorem rd_mem {L : List Int} {j : Nat} (h : j < L.length) : rd L (j : Int) ∈ L := by
  have h1 := rd_drop h
  have h2 : rd L (j : Int) ∈ L.drop j := by rw [h1]; exact List.mem_cons_self
  exact List.mem_of_mem_drop h2
theorem placesG_mem {l7 l : List Int} {x : Int} : ∀ k, k ≤ l.length → x ∈ placesG l7 l k → x ∈ l
  | 0, _, h => by cases h
  | k + 1, hk, h => by
    have h' : x ∈ placesG l7 l k ++ (if plB l7 (l.length : Int) (k : Int) = true then [rd l (k : Int)] else []) := h
    rw [List.mem_append] at h'
    rcases h' with h' | h'
    · exact placesG_mem k (by omega) h'
    · split at h'
      · have e : x = rd l (k : Int) := by simpa using h'
        rw [e]
        exact rd_mem (by omega)
      · cases h'
theorem placesL_mem {l7 l : List Int} {x : Int} (h : x ∈ placesL l7 l) : x ∈ l := by
  unfold placesL at h
  split at h
  · exact h
  · exact placesG_mem _ (Nat.le_refl _) h
theorem DLp_bd {a0 a1 a8 : Int} {l4 l5 l7 : List Int} {l6 : List S58} {day sy sm sd : Int} {k : Nat} {x : Int} (h : x ∈ (DLp a0 a1 a8 l4 l7 (dayB a0 l4 l5 l6 day sm sd) day sy sm k).1) : 0 ≤ x ∧ x < 109938 :=
  dayB_bd (periodL_P (placesL_mem h))
theorem DLp_len (a0 a1 a8 : Int) (l4 l7 : List Int) (P : Int → Bool) (day sy sm : Int) (k : Nat) : (DLp a0 a1 a8 l4 l7 P day sy sm k).1.length ≤ 400 :=
  Nat.le_trans (placesL_len _ _) (periodL_len _ _ _ _ _ _ _ _)
end Go.Proofs.Ytinjbpbpgogdhaa.Own
