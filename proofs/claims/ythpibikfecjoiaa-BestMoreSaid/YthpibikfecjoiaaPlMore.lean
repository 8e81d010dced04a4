import Derived.Test.YthpibikfecjoiaaPl1
import Derived.Test.YthpibikfecjoiaaOwnx3
namespace Go.Proofs.Ythpibikfecjoiaa.Own
open Go.RowKit Go.Proofs.YthpibikfecjoiaaW.PrintWords Go.Proofs.YthpibikfecjoiaaW.PrintLast Go.Proofs.YthpibikfecjoiaaW.PrintMore
set_option linter.unusedVariables false
set_option linter.unusedSimpArgs false
/-! BestMore: what may be still may be with a seat more, or without a pair; what may be with one who can't come may be anyway. -/
theorem choose_le {l : List S33} {can can' : List Bool} {seats seats' : Int} {apart apart' : List S39} (h : l.length ≤ 16) (hk : ∀ b, Ok l can seats apart b → Ok l can' seats' apart' b) :
    (chooseP l can seats apart).bw ≤ (chooseP l can' seats' apart').bw := by
  obtain ⟨b, hb, e, _⟩ := choose_is can seats apart h
  rw [e]
  exact choose_most h (fz_of (hk b (ok_of hb)))
theorem ok_seat {l : List S33} {can : List Bool} {seats seats' : Int} {apart : List S39} {b : Nat → Bool} (h : Ok l can seats apart b) (hs : 0 ≤ seats) (h' : seats' < 0 ∨ seats ≤ seats') : Ok l can seats' apart b :=
  ⟨h.ca, fun h0 => by have := h.se hs; omega, h.ap⟩
theorem nb_drop {apart : List S39} {a b : Int} (h : nbP apart a b = false) : nbP (apart.drop 1) a b = false := by
  cases apart with
  | nil => exact h
  | cons p r =>
    show nbP r a b = false
    unfold nbP pairIn at h ⊢
    simp only [List.any_cons, Bool.or_eq_false_iff] at h ⊢
    exact ⟨h.1.2, h.2.2⟩
theorem ok_drop {l : List S33} {can : List Bool} {seats : Int} {apart : List S39} {b : Nat → Bool} (h : Ok l can seats apart b) : Ok l can seats (apart.drop 1) b :=
  ⟨h.ca, h.se, fun i j a c d e => nb_drop (h.ap i j a c d e)⟩
theorem ok_less {l : List S33} {can : List Bool} {seats : Int} {apart : List S39} {b : Nat → Bool} (t : Nat) (h : Ok l (can.set t false) seats apart b) : Ok l can seats apart b :=
  ⟨fun j hj hb => by
    have := h.ca j hj hb
    rw [List.getD_eq_getElem?_getD, List.getElem?_set] at this
    by_cases c : t = j
    · rw [if_pos c] at this
      split at this <;> simp at this
    · rw [if_neg c, ← List.getD_eq_getElem?_getD] at this
      exact this, h.se, h.ap⟩
theorem choose_none {l : List S33} {seats : Int} {apart : List S39} (h : l.length ≤ 16) : (chooseP l [] seats apart).bw = 0 ∧ (chooseP l [] seats apart).us = [] := by
  obtain ⟨b, hb, e1, e2⟩ := choose_is [] seats apart h
  have hn : ∀ j, j < l.length → b j = false := fun j hj => by
    cases hbj : b j with
    | false => rfl
    | true => exact absurd ((ok_of hb).ca j hj hbj) (by simp)
  constructor
  · rw [e1, sumF_congr (g := fun _ => 0) l.length 0 (fun j _ hj => by unfold selV; rw [hn j (by omega)]; rfl), sumF_const]
    omega
  · rw [e2, pre_congr (c := fun _ => false) l.length hn]
    unfold pre
    simp
theorem more_j2 {l : List S33} {can : List Bool} {seats : Int} {apart : List S39} {a4 : Int} {vis : Int} (h : l.length ≤ 16) (h6 : apart.length ≤ 1000000) (h100 : can.length ≤ 100) (h4 : 0 ≤ a4) (h4' : a4 < 256) (k : Nat) :
    vesperslaw21_BestMore.j2 (k + 1) l can apart a4 seats false (chooseP l can seats apart).bw (chooseP l can seats apart).us vis = some true := by
  have hw : wrap64 a4 = a4 := by unfold wrap64; omega
  rw [vesperslaw21_BestMore.j2, if_neg (by simp)]
  by_cases c : can.length = 0
  · obtain rfl := List.eq_nil_of_length_eq_zero c
    obtain ⟨e1, e2⟩ := choose_none (l := l) (seats := seats) (apart := apart) h
    rw [if_pos (by simp), fixed_true, e1, e2]
    simp
  · rw [if_neg (by omega)]
    simp only [Option.bind_some, List.nil_append]
    rw [if_pos (by simp; omega), hw]
    have hm0 : 0 ≤ Int.tmod a4 (can.length : Int) := Int.tmod_nonneg _ h4
    have hm1 : Int.tmod a4 (can.length : Int) < (can.length : Int) := Int.tmod_lt_of_pos _ (by omega)
    rw [if_pos hm0, if_pos hm1, fixed_true]
    simp only [Option.bind_some]
    rw [if_pos trivial, choose_f h h6]
    simp only [Option.bind_some]
    rw [decide_eq_true (choose_le h fun b hb => ok_less _ hb)]
theorem more_j1 {l : List S33} {can : List Bool} {seats : Int} {apart : List S39} {a4 : Int} {vis : Int} (h : l.length ≤ 16) (h6 : apart.length ≤ 1000000) (h100 : can.length ≤ 100) (h4 : 0 ≤ a4) (h4' : a4 < 256) (k : Nat) :
    vesperslaw21_BestMore.j1 (k + 1 + 1) l can apart a4 seats false (chooseP l can seats apart).bw (chooseP l can seats apart).us vis = some true := by
  rw [vesperslaw21_BestMore.j1, if_neg (by simp)]
  have h2 := more_j2 (seats := seats) (vis := vis) h h6 h100 h4 h4' k
  by_cases c : (apart.length : Int) > 0
  · rw [if_pos c, if_pos (by omega), choose_f h (by rw [List.length_drop]; omega)]
    simp only [Option.bind_some]
    rw [decide_eq_false (by
      have := choose_le (can := can) (can' := can) (seats := seats) (seats' := seats) (apart := apart) (apart' := apart.drop 1) h fun b hb => ok_drop hb
      omega)]
    exact h2
  · rw [if_neg c]
    exact h2
theorem best_more_k (l : List S33) (can : List Bool) (a2 : Int) (apart : List S39) (a4 : Int) (h2 : 0 ≤ a2) (h2' : a2 < 256) (h4 : 0 ≤ a4) (h4' : a4 < 256) (k : Nat) : vesperslaw21_BestMore.f (k + 1 + 1 + 1) l can a2 apart a4 = some true := by
  unfold vesperslaw21_BestMore.f
  have ht : vesperslaw21_BestMore.j0 (k + 1 + 1 + 1) l can a2 apart a4 true = some true := by
    rw [vesperslaw21_BestMore.j0, if_pos rfl, fixed_true]; rfl
  by_cases h1 : l.length ≤ 12
  · rw [if_neg (by omega)]
    by_cases h6 : apart.length ≤ 40
    · rw [if_neg (by omega)]
      by_cases hc : can.length ≤ 100
      · have hw : wrap64 a2 = a2 := by unfold wrap64; omega
        have hm0 : 0 ≤ Int.tmod a2 20 := Int.tmod_nonneg _ h2
        have hm1 : Int.tmod a2 20 < 20 := Int.tmod_lt_of_pos _ (by omega)
        have h16 : l.length ≤ 16 := by omega
        have h6' : apart.length ≤ 1000000 := by omega
        rw [show decide ((can.length : Int) > 100) = false from decide_eq_false (by omega), vesperslaw21_BestMore.j0, if_neg (by simp), hw]
        generalize Int.tmod a2 20 = s at hm0 hm1 ⊢
        rw [show wrap64 (s + 1) = s + 1 from by unfold wrap64; omega, choose_f h16 h6', choose_f h16 h6', choose_f h16 h6']
        simp only [Option.bind_some]
        have g1 := choose_le (can := can) (can' := can) (seats := s) (seats' := s + 1) (apart := apart) (apart' := apart) h16 fun b hb => ok_seat hb hm0 (.inr (by omega))
        have g2 := choose_le (can := can) (can' := can) (seats := s) (seats' := -1) (apart := apart) (apart' := apart) h16 fun b hb => ok_seat hb hm0 (.inl (by omega))
        rw [if_neg (by omega), decide_eq_false (by omega)]
        exact more_j1 h16 h6' hc h4 h4' k
      · rw [decide_eq_true (by omega)]
        exact ht
    · rw [if_pos (by omega)]
      exact ht
  · rw [if_pos (by omega)]
    exact ht
theorem best_more (l : List S33) (can : List Bool) (a2 : Int) (apart : List S39) (a4 : Int) (h2 : 0 ≤ a2) (h2' : a2 < 256) (h4 : 0 ≤ a4) (h4' : a4 < 256) : ∃ k, vesperslaw21_BestMore.f k l can a2 apart a4 = some true :=
  ⟨_, best_more_k l can a2 apart a4 h2 h2' h4 h4' 0⟩
end Go.Proofs.Ythpibikfecjoiaa.Own
