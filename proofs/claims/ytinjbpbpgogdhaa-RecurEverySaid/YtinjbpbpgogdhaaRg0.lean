import Derived.Test.YtinjbpbpgogdhaaRe4
namespace Go.Proofs.Ytinjbpbpgogdhaa.Own
open Go.RowKit Go.Proofs.YtinjbpbpgogdhaaW.PrintWords Go.Proofs.YtinjbpbpgogdhaaW.PrintLast Go.Proofs.YtinjbpbpgogdhaaW.PrintMore
set_option linter.unusedVariables false
set_option linter.unusedSimpArgs false
/-- Rising. -/
abbrev Asc (l : List Int) : Prop := l.Pairwise (fun a b => a < b)
theorem asc_daysL (P : Int → Bool) (n : Int) : ∀ k : Nat, Asc (daysL P k n)
  | 0 => List.Pairwise.nil
  | k + 1 => by
    show Asc (daysL P k n ++ (if P (n + (k : Int)) = true then [n + (k : Int)] else []))
    refine List.pairwise_append.2 ⟨asc_daysL P n k, ?_, ?_⟩
    · split
      · exact List.pairwise_singleton _ _
      · exact List.Pairwise.nil
    · intro a ha b hb
      have h1 := ((daysL_mem k).1 ha).2.2
      split at hb
      · have e : b = n + (k : Int) := by simpa using hb
        omega
      · cases hb
theorem asc_daysF (P : Int → Bool) (fr : Int) (many : Nat) : Asc (daysF P fr many) := asc_daysL _ _ _
theorem asc_monthL {P : Int → Bool} {l4 xs : List Int} {y m : Int} (h : Asc xs) (hb : Ok y m 1 → ∀ x ∈ xs, x < num y m 1) : Asc (monthL P l4 xs y m) := by
  unfold monthL
  split
  · rename_i hc
    refine List.pairwise_append.2 ⟨h, asc_daysL _ _ _, ?_⟩
    intro a ha b hb'
    have h1 := hb hc.1 a ha
    have h2 := ((daysL_mem _).1 hb').2.1
    omega
  · exact h
/-- A month begins behind each one ahead of it. -/
theorem month_next {y m y' m' : Int} (h : Ok y m 1) (h' : Ok y' m' 1) (hl : 12 * y + m < 12 * y' + m') : num y m 1 + len y m ≤ num y' m' 1 := by
  obtain ⟨h1, h2, h3, h4, h5, h6⟩ := h
  obtain ⟨g1, g2, g3, g4, g5, g6⟩ := h'
  rw [num_eq h3 h4, num_eq g3 g4]
  have hc : cm y m + len y m ≤ 365 + lpi y := by
    unfold cm len lpi mar
    cases lp y <;> simp <;> repeat' split
    all_goals omega
  have hcb := (cm_bd (y := y') g3 g4).1
  by_cases e : y = y'
  · subst e
    have e1 := cm_succ (y := y) h3 (by omega)
    have e2 : cm y (m + 1) ≤ cm y m' := by
      unfold cm mar
      cases lp y <;> simp <;> repeat' split
      all_goals omega
    omega
  · have he : eraZ (y - 1) + 365 + lpi y ≤ eraZ (y' - 1) := by
      rw [← era_succ]
      by_cases e2 : y = y' - 1
      · rw [e2]; exact Int.le_refl _
      · have := era_mono (show y < y' - 1 by omega)
        omega
    omega
theorem asc_yearL (P : Int → Bool) (l4 : List Int) (y : Int) : ∀ k, k ≤ 12 → Asc (yearL P l4 y k)
  | 0, _ => List.Pairwise.nil
  | k + 1, hk => by
    refine asc_monthL (asc_yearL P l4 y k (by omega)) ?_
    intro hok x hx
    obtain ⟨m, hm, ⟨hok2, _⟩, _, h1, h2⟩ := (yearL_mem k).1 hx
    have := month_next hok2 hok (by omega)
    omega
theorem asc_periodL (a0 a8 : Int) (l4 : List Int) (P : Int → Bool) (day sy sm st : Int) : Asc (periodL a0 a8 l4 P day sy sm st).1 := by
  unfold periodL
  split
  · exact asc_daysF _ _ _
  · split
    · exact asc_daysF _ _ _
    · split
      · exact asc_monthL List.Pairwise.nil (fun _ x hx => (by cases hx))
      · exact asc_yearL _ _ _ _ (Nat.le_refl _)
/-- What belongs to a period stands ahead of what belongs to a later one. -/
theorem period_order {a0 a8 : Int} {l4 : List Int} {P : Int → Bool} {day sy sm s1 s2 x y : Int} (hs0 : 0 ≤ sy) (hm : 1 ≤ sm) (hm2 : sm ≤ 12) (h0 : 0 ≤ s1) (h : s1 < s2) (hx : x ∈ (periodL a0 a8 l4 P day sy sm s1).1) (hy : y ∈ (periodL a0 a8 l4 P day sy sm s2).1) : x < y := by
  unfold periodL at hx hy
  split at hx
  · rename_i e
    rw [if_pos e] at hy
    have h1 := (daysF_mem.1 hx).2.2.2
    have h2 := (daysF_mem.1 hy).2.2.1
    omega
  · rename_i e
    rw [if_neg e] at hy
    split at hx
    · rename_i e2
      rw [if_pos e2] at hy
      have h1 := (daysF_mem.1 hx).2.2.2
      have h2 := (daysF_mem.1 hy).2.2.1
      omega
    · rename_i e2
      rw [if_neg e2] at hy
      split at hx
      · rename_i e3
        rw [if_pos e3] at hy
        rcases monthL_mem.1 hx with h1 | h1
        · cases h1
        rcases monthL_mem.1 hy with h2 | h2
        · cases h2
        have := month_next h1.1.1 h2.1.1 (by omega)
        omega
      · rename_i e3
        rw [if_neg e3] at hy
        obtain ⟨m, hm, ⟨hok, _⟩, _, h1, h2⟩ := (yearL_mem _).1 hx
        obtain ⟨m', hm', ⟨hok', _⟩, _, h1', h2'⟩ := (yearL_mem _).1 hy
        have := month_next hok hok' (by omega)
        omega
theorem sub_placesG (l7 l : List Int) : ∀ k, k ≤ l.length → (placesG l7 l k).Sublist (l.take k)
  | 0, _ => by
    show List.Sublist [] _
    exact List.nil_sublist _
  | k + 1, hk => by
    show (placesG l7 l k ++ (if plB l7 (l.length : Int) (k : Int) = true then [rd l (k : Int)] else [])).Sublist _
    have e : l.take (k + 1) = l.take k ++ [rd l (k : Int)] := by
      rw [List.take_succ_eq_append_getElem (by omega)]
      congr 2
      unfold rd
      simp [show k < l.length by omega]
    rw [e]
    refine List.Sublist.append (sub_placesG l7 l k (by omega)) ?_
    split
    · exact List.Sublist.refl _
    · exact List.nil_sublist _
theorem sub_placesL (l7 l : List Int) : (placesL l7 l).Sublist l := by
  unfold placesL
  split
  · exact List.Sublist.refl _
  · have := sub_placesG l7 l l.length (Nat.le_refl _)
    rwa [List.take_length] at this
theorem asc_DLp (a0 a1 a8 : Int) (l4 l7 : List Int) (P : Int → Bool) (day sy sm : Int) (k : Nat) : Asc (DLp a0 a1 a8 l4 l7 P day sy sm k).1 :=
  List.Pairwise.sublist (sub_placesL _ _) (asc_periodL _ _ _ _ _ _ _ _)
theorem endT_no (x : Int) (g : Nat) : endT 0 (-1) x g = false := by
  unfold endT
  simp
/-- The times of days, without an end. -/
def tms (day mi : Int) (ns : List Int) : List Int := (ns.filter (fun n => decide (day ≤ n))).map (fun n => n * 1440 + mi)
theorem goDays_no (day mi : Int) : ∀ (ns : List Int) (g : Nat), goDays 0 (-1) day mi ns g = (tms day mi ns, false)
  | [], _ => rfl
  | n :: ns, g => by
    unfold goDays
    unfold tms
    by_cases h : n < day
    · rw [if_pos h, goDays_no day mi ns g, List.filter_cons_of_neg (by simp; omega)]
      rfl
    · rw [if_neg h, if_neg (by rw [endT_no]; simp), goDays_no day mi ns (g + 1), List.filter_cons_of_pos (by simp; omega), List.map_cons]
      rfl
theorem tms_mem {day mi x : Int} {ns : List Int} : x ∈ tms day mi ns ↔ ∃ n ∈ ns, day ≤ n ∧ x = n * 1440 + mi := by
  unfold tms
  rw [List.mem_map]
  constructor
  · rintro ⟨n, hn, rfl⟩
    rw [List.mem_filter] at hn
    exact ⟨n, hn.1, of_decide_eq_true hn.2, rfl⟩
  · rintro ⟨n, hn, h, rfl⟩
    exact ⟨n, List.mem_filter.2 ⟨hn, decide_eq_true h⟩, rfl⟩
theorem asc_tms {day mi : Int} {ns : List Int} (h : Asc ns) : Asc (tms day mi ns) := by
  unfold tms
  rw [Asc, List.pairwise_map]
  exact (List.Pairwise.filter _ h).imp (fun hab => by omega)
theorem goPer_mem {DL : Nat → List Int × Bool} {day mi x : Int} : ∀ (f k g : Nat), x ∈ goPer DL 0 (-1) day mi f k g ↔ ∃ j, j < f ∧ (∀ i, i ≤ j → (DL (k + i)).2 = true) ∧ x ∈ tms day mi (DL (k + j)).1
  | 0, k, g => by
    refine ⟨fun h => (by cases h), ?_⟩
    rintro ⟨j, hj, _⟩
    omega
  | f + 1, k, g => by
    cases hm : (DL k).2 with
    | false =>
      rw [goPer_no hm]
      refine ⟨fun h => (by cases h), ?_⟩
      rintro ⟨j, _, h, _⟩
      have := h 0 (Nat.zero_le _)
      rw [Nat.add_zero, hm] at this
      cases this
    | true =>
      rw [goPer_yes hm, goDays_no]
      show x ∈ tms day mi (DL k).1 ++ goPer DL 0 (-1) day mi f (k + 1) (g + (tms day mi (DL k).1).length) ↔ _
      rw [List.mem_append, goPer_mem f (k + 1)]
      constructor
      · rintro (h | ⟨j, hj, h1, h2⟩)
        · exact ⟨0, by omega, fun i hi => by rw [show i = 0 from by omega]; exact hm, h⟩
        · refine ⟨j + 1, by omega, fun i hi => ?_, by rw [show k + (j + 1) = k + 1 + j from by omega]; exact h2⟩
          by_cases e : i = 0
          · rw [e]; exact hm
          · have := h1 (i - 1) (by omega)
            rwa [show k + 1 + (i - 1) = k + i from by omega] at this
      · rintro ⟨j, hj, h1, h2⟩
        by_cases e : j = 0
        · rw [e] at h2
          exact .inl h2
        · refine .inr ⟨j - 1, by omega, fun i hi => ?_, ?_⟩
          · have := h1 (i + 1) (by omega)
            rwa [show k + (i + 1) = k + 1 + i from by omega] at this
          · rwa [show k + 1 + (j - 1) = k + j from by omega]
theorem asc_goPer {DL : Nat → List Int × Bool} {day mi : Int} (hA : ∀ k, Asc (DL k).1) (hO : ∀ k k' x y, k < k' → x ∈ (DL k).1 → y ∈ (DL k').1 → x < y) : ∀ (f k g : Nat), Asc (goPer DL 0 (-1) day mi f k g)
  | 0, _, _ => List.Pairwise.nil
  | f + 1, k, g => by
    cases hm : (DL k).2 with
    | false =>
      rw [goPer_no hm]
      exact List.Pairwise.nil
    | true =>
      rw [goPer_yes hm, goDays_no]
      show Asc (tms day mi (DL k).1 ++ goPer DL 0 (-1) day mi f (k + 1) (g + (tms day mi (DL k).1).length))
      refine List.pairwise_append.2 ⟨asc_tms (hA k), asc_goPer hA hO f (k + 1) _, ?_⟩
      intro a ha b hb
      obtain ⟨n, hn, _, rfl⟩ := tms_mem.1 ha
      obtain ⟨j, _, _, h2⟩ := (goPer_mem _ _ _).1 hb
      obtain ⟨n', hn', _, rfl⟩ := tms_mem.1 h2
      have := hO k (k + 1 + j) n n' (by omega) hn hn'
      omega
end Go.Proofs.Ytinjbpbpgogdhaa.Own
