import Derived.Test.YthpibikfecjoiaaPl1
import Derived.Test.YthpibikfecjoiaaOwnx4
namespace Go.Proofs.Ythpibikfecjoiaa.Own
open Go.RowKit Go.Proofs.YthpibikfecjoiaaW.PrintWords Go.Proofs.YthpibikfecjoiaaW.PrintLast Go.Proofs.YthpibikfecjoiaaW.PrintMore
set_option linter.unusedVariables false
set_option linter.unusedSimpArgs false
/-! BestTurned: users in another order, weights twice as great. -/
theorem sumF_turn (f : Nat → Int) (n t : Nat) (ht : t < n) : sumF (fun j => f ((j + t) % n)) n 0 = sumF f n 0 := by
  have e1 : sumF (fun j => f ((j + t) % n)) n 0 = sumF (fun j => f ((j + t) % n)) (n - t) 0 + sumF (fun j => f ((j + t) % n)) t (0 + (n - t)) := by
    rw [← sumF_split, show n - t + t = n from by omega]
  have e2 : sumF f n 0 = sumF f t 0 + sumF f (n - t) (0 + t) := by
    rw [← sumF_split, show t + (n - t) = n from by omega]
  rw [e1, e2]
  have a : sumF (fun j => f ((j + t) % n)) (n - t) 0 = sumF f (n - t) (0 + t) := by
    rw [← sumF_shift]
    apply sumF_congr
    intro j _ hj
    rw [Nat.mod_eq_of_lt (by omega)]
  have b : sumF (fun j => f ((j + t) % n)) t (0 + (n - t)) = sumF f t 0 := by
    rw [← sumF_shift]
    apply sumF_congr
    intro j _ hj
    show f ((j + (n - t) + t) % n) = f j
    rw [show j + (n - t) + t = j + n from by omega, Nat.add_mod_right, Nat.mod_eq_of_lt (by omega)]
  rw [a, b]
  omega
/-- l' is l, begun at the place t. -/
def Turn (l l' : List S33) (t : Nat) : Prop := l'.length = l.length ∧ ∀ j, j < l.length → rd_T33 l' (j : Int) = rd_T33 l (((j + t) % l.length : Nat) : Int)
theorem turn_le {l l' : List S33} {t : Nat} {can : List Bool} {seats : Int} {apart : List S39} (h : l.length ≤ 16) (ht : t < l.length) (hT : Turn l l' t) (hcan : ∀ j, j < l.length → can.getD j false = true) :
    (chooseP l can seats apart).bw ≤ (chooseP l' can seats apart).bw := by
  obtain ⟨b, hb, e, _⟩ := choose_is can seats apart h
  have ho := ok_of hb
  obtain ⟨hl, hr⟩ := hT
  rw [e]
  have hv : ∀ (g g' : Nat → Int), (∀ j, j < l.length → g' j = g ((j + t) % l.length)) → sumF (selV (fun j => b ((j + t) % l.length)) g') l.length 0 = sumF (selV b g) l.length 0 := by
    intro g g' hg
    rw [← sumF_turn (selV b g) l.length t ht]
    apply sumF_congr
    intro j _ hj
    unfold selV
    rw [hg j (by omega)]
  have hw : sumF (selV b (wl l)) l.length 0 = sumF (selV (fun j => b ((j + t) % l.length)) (wl l')) l'.length 0 := by
    rw [hl, hv (wl l) (wl l') (fun j hj => by unfold wl; rw [hr j hj])]
  rw [hw]
  apply choose_most (by omega)
  apply fz_of
  have hmod : ∀ j, j < l.length → (j + t) % l.length < l.length := fun j hj => Nat.mod_lt _ (by omega)
  refine ⟨fun j hj hbj => hcan j (by omega), fun h0 => ?_, fun i j hij hj hbi hbj => ?_⟩
  · rw [hl, hv (fun _ => 1) (fun _ => 1) (fun _ _ => rfl)]
    exact ho.se h0
  · have hj' : j < l.length := by omega
    have hi' : i < l.length := by omega
    unfold ul
    rw [hr i hi', hr j hj']
    have mi := hmod i hi'
    have mj := hmod j hj'
    have hcase : ∀ x, x < l.length → ((x + t) % l.length = x + t ∧ x + t < l.length) ∨ ((x + t) % l.length = x + t - l.length ∧ l.length ≤ x + t) := by
      intro x hx
      by_cases c : x + t < l.length
      · exact .inl ⟨Nat.mod_eq_of_lt c, c⟩
      · refine .inr ⟨?_, by omega⟩
        rw [Nat.mod_eq_sub_mod (by omega), Nat.mod_eq_of_lt (by omega)]
    have hne : (i + t) % l.length ≠ (j + t) % l.length := by
      rcases hcase i hi' with ⟨a, _⟩ | ⟨a, _⟩ <;> rcases hcase j hj' with ⟨b, _⟩ | ⟨b, _⟩ <;> omega
    rcases Nat.lt_or_gt_of_ne hne with c | c
    · exact ho.ap _ _ c mj hbi hbj
    · rw [nb_symm]
      exact ho.ap _ _ c mi hbj hbi
theorem turn_back {l l' : List S33} {t : Nat} (ht : t < l.length) (hT : Turn l l' t) : Turn l' l ((l.length - t) % l.length) := by
  obtain ⟨hl, hr⟩ := hT
  refine ⟨hl.symm, fun j hj => ?_⟩
  rw [hl]
  have hlt : (j + (l.length - t) % l.length) % l.length < l.length := Nat.mod_lt _ (by omega)
  rw [hr _ hlt]
  congr 2
  by_cases c : t = 0
  · subst c
    rw [Nat.sub_zero, Nat.mod_self, Nat.add_zero, Nat.add_zero, Nat.mod_mod, Nat.mod_eq_of_lt (by omega)]
  · rw [Nat.mod_eq_of_lt (show l.length - t < l.length from by omega), Nat.mod_add_mod, show j + (l.length - t) + t = j + l.length from by omega, Nat.add_mod_right, Nat.mod_eq_of_lt (by omega)]
theorem turn_eq {l l' : List S33} {t : Nat} {can : List Bool} {seats : Int} {apart : List S39} (h : l.length ≤ 16) (ht : t < l.length) (hT : Turn l l' t) (hcan : ∀ j, j < l.length → can.getD j false = true) :
    (chooseP l' can seats apart).bw = (chooseP l can seats apart).bw := by
  have hl := hT.1
  refine Int.le_antisymm ?_ (turn_le h ht hT hcan)
  exact turn_le (by omega) (by rw [hl]; exact Nat.mod_lt _ (by omega)) (turn_back ht hT) (by rw [hl]; exact hcan)
/-- l' is l with weights twice as great. -/
structure Twice (l l' : List S33) : Prop where
  hl : l'.length = l.length
  hu : ∀ j, j < l.length → ul l' j = ul l j
  hw : ∀ j, j < l.length → wl l' j = 2 * wl l j
theorem twice_eq {l l' : List S33} {can : List Bool} {seats : Int} {apart : List S39} (h : l.length ≤ 16) (hT : Twice l l') :
    (chooseP l' can seats apart).bw = 2 * (chooseP l can seats apart).bw := by
  have hv : ∀ b, sumF (selV b (wl l')) l'.length 0 = 2 * sumF (selV b (wl l)) l.length 0 := by
    intro b
    rw [hT.hl, ← sumF_mul]
    apply sumF_congr
    intro j _ hj
    unfold selV
    rw [hT.hw j (by omega)]
    split <;> simp
  have hok : ∀ b, Ok l can seats apart b ↔ Ok l' can seats apart b := by
    intro b
    constructor
    · intro ho
      refine ⟨fun j hj hb => ho.ca j (by rw [← hT.hl]; exact hj) hb, fun h0 => by rw [hT.hl]; exact ho.se h0, fun i j a c d e => ?_⟩
      have hj : j < l.length := by rw [← hT.hl]; exact c
      rw [hT.hu i (by omega), hT.hu j hj]
      exact ho.ap i j a hj d e
    · intro ho
      refine ⟨fun j hj hb => ho.ca j (by rw [hT.hl]; exact hj) hb, fun h0 => by rw [← hT.hl]; exact ho.se h0, fun i j a c d e => ?_⟩
      rw [← hT.hu i (by omega), ← hT.hu j c]
      exact ho.ap i j a (by rw [hT.hl]; exact c) d e
  have h' : l'.length ≤ 16 := by rw [hT.hl]; exact h
  apply Int.le_antisymm
  · obtain ⟨b, hb, e, _⟩ := choose_is can seats apart h'
    rw [e, hv b]
    have := choose_most h (fz_of ((hok b).2 (ok_of hb)))
    omega
  · obtain ⟨b, hb, e, _⟩ := choose_is can seats apart h
    rw [e, ← hv b]
    exact choose_most h' (fz_of ((hok b).1 (ok_of hb)))
theorem choose_bd {l : List S33} (can : List Bool) (seats : Int) (apart : List S39) (h : l.length ≤ 16) : 0 ≤ (chooseP l can seats apart).bw ∧ (chooseP l can seats apart).bw ≤ 16000 := by
  obtain ⟨b, hb, e, _⟩ := choose_is can seats apart h
  rw [e]
  constructor
  · have := sumF_le (f := fun _ => 0) (g := selV b (wl l)) l.length 0 (fun j _ _ => by
      unfold selV wl
      have := wt_le (rd_T33 l (j : Int))
      split <;> omega)
    rw [sumF_const] at this
    omega
  · have := sumF_le (g := fun _ => 1000) (f := selV b (wl l)) l.length 0 (fun j _ _ => by
      unfold selV wl
      have := wt_le (rd_T33 l (j : Int))
      split <;> omega)
    rw [sumF_const] at this
    omega
def turned (l : List S33) (t i : Nat) : List S33 := (List.range i).map fun j => rd_T33 l (((j + t) % l.length : Nat) : Int)
def twiced (l : List S33) (i : Nat) : List S33 := (List.range i).map fun j : Nat => ⟨(rd_T33 l (j : Int)).f0, 2 * (rd_T33 l (j : Int)).f1⟩
def canned (n i : Nat) : List Bool := (List.range n).map fun j => decide (j < i)
theorem rd_map {f : Nat → S33} {n j : Nat} (h : j < n) : rd_T33 ((List.range n).map f) (j : Int) = f j := by
  unfold rd_T33
  rw [Int.toNat_natCast, List.getD_eq_getElem?_getD]
  simp [h]
theorem turned_loop {l : List S33} {seats : Int} {apart : List S39} {a3 : Int} (h : l.length ≤ 10) (h6 : apart.length ≤ 40) (h3 : 0 ≤ a3) (h3' : a3 < 256) (d : Nat) : ∀ i k, i + d = l.length → d + 1 ≤ k → 0 < l.length → (∀ j, j < i → 0 ≤ (rd_T33 l (j : Int)).f1 ∧ (rd_T33 l (j : Int)).f1 ≤ 500) →
    vesperslaw21_BestTurned.l0 k l seats apart a3 (turned l (a3.toNat % l.length) i) (twiced l i) (canned l.length i) (l.length : Int) (i : Int) = some true := by
  induction d with
  | zero =>
    intro i k hi hk hpos hw
    obtain ⟨k, rfl⟩ : ∃ m, k = m + 1 := ⟨k - 1, by omega⟩
    obtain rfl : i = l.length := by omega
    have h16 : l.length ≤ 16 := by omega
    have h6' : apart.length ≤ 1000000 := by omega
    have hT : Turn l (turned l (a3.toNat % l.length) l.length) (a3.toNat % l.length) := ⟨by simp [turned], fun j hj => rd_map hj⟩
    have hlt : a3.toNat % l.length < l.length := Nat.mod_lt _ hpos
    have hcan : ∀ j, j < l.length → (canned l.length l.length).getD j false = true := by
      intro j hj
      unfold canned
      rw [List.getD_eq_getElem?_getD]
      simp [hj]
    have hW : Twice l (twiced l l.length) := by
      refine ⟨by simp [twiced], fun j hj => ?_, fun j hj => ?_⟩
      · unfold ul twiced; rw [rd_map hj]
      · unfold wl twiced
        rw [rd_map hj]
        have := hw j hj
        unfold wt mn mx
        simp only
        (repeat' split) <;> omega
    have e1 := turn_eq (seats := seats) (apart := apart) h16 hlt hT hcan
    have e2 := twice_eq (can := canned l.length l.length) (seats := seats) (apart := apart) h16 hW
    have hb := choose_bd (canned l.length l.length) seats apart h16
    rw [vesperslaw21_BestTurned.l0, if_neg (by omega), fixed_true, choose_f h16 h6', choose_f (by rw [hT.1]; exact h16) h6', choose_f (by rw [hW.hl]; exact h16) h6']
    simp only [Option.bind_some]
    rw [if_pos trivial, if_pos e1, e2, show wrap64 (2 * (chooseP l (canned l.length l.length) seats apart).bw) = 2 * (chooseP l (canned l.length l.length) seats apart).bw from by unfold wrap64; omega]
    simp
  | succ d ih =>
    intro i k hi hk hpos hw
    obtain ⟨k, rfl⟩ : ∃ m, k = m + 1 := ⟨k - 1, by omega⟩
    rw [vesperslaw21_BestTurned.l0, if_pos (by omega), if_pos (by omega), if_pos (by omega), fixed_true]
    by_cases c1 : (rd_T33 l (i : Int)).f1 < 0
    · rw [if_pos c1]; rfl
    · rw [if_neg c1]
      by_cases c2 : (rd_T33 l (i : Int)).f1 > 500
      · rw [if_pos c2]; rfl
      · rw [if_neg c2, if_pos (by simp [canned]; omega), if_neg (by omega)]
        have hw3 : wrap64 ((i : Int) + wrap64 a3) = ((i + a3.toNat : Nat) : Int) := by unfold wrap64; omega
        have hm : Int.tmod (wrap64 ((i : Int) + wrap64 a3)) (l.length : Int) = (((i + a3.toNat % l.length) % l.length : Nat) : Int) := by
          rw [hw3, Int.tmod_eq_emod_of_nonneg (by omega), Nat.add_mod_mod]
          omega
        have hlt : (i + a3.toNat % l.length) % l.length < l.length := Nat.mod_lt _ hpos
        rw [hm, if_pos (by omega), if_pos (by omega), if_pos (by simp [turned]; omega), if_pos (by simp [twiced]; omega)]
        have h1 := ih (i + 1) k (by omega) (by omega) hpos (fun j hj => by
          rcases Nat.lt_succ_iff_lt_or_eq.1 hj with hj | rfl
          · exact hw j hj
          · omega)
        rw [show wrap64 ((i : Int) + 1) = ((i + 1 : Nat) : Int) from by unfold wrap64; omega, show wrap64 (2 * (rd_T33 l (i : Int)).f1) = 2 * (rd_T33 l (i : Int)).f1 from by unfold wrap64; omega]
        have e1 : turned l (a3.toNat % l.length) i ++ [⟨(rd_T33 l (((i + a3.toNat % l.length) % l.length : Nat) : Int)).f0, (rd_T33 l (((i + a3.toNat % l.length) % l.length : Nat) : Int)).f1⟩] = turned l (a3.toNat % l.length) (i + 1) := by
          unfold turned
          rw [List.range_succ, List.map_append]
          rfl
        have e2 : twiced l i ++ [⟨(rd_T33 l (i : Int)).f0, 2 * (rd_T33 l (i : Int)).f1⟩] = twiced l (i + 1) := by
          unfold twiced
          rw [List.range_succ, List.map_append]
          rfl
        have e3 : (canned l.length i).set ((i : Int)).toNat true = canned l.length (i + 1) := by
          unfold canned
          apply List.ext_getElem
          · simp
          · intro j g1 g2
            rw [List.getElem_set]
            simp only [List.getElem_map, List.getElem_range, Int.toNat_natCast]
            by_cases c : i = j
            · subst c; rw [if_pos rfl]; simp
            · rw [if_neg c]; congr 1; simp; omega
        rw [e1, e2, e3]
        exact h1
theorem best_turned_k (l : List S33) (a1 : Int) (apart : List S39) (a3 : Int) (h3 : 0 ≤ a3) (h3' : a3 < 256) (k : Nat) (hk : 20 ≤ k) : vesperslaw21_BestTurned.f (k + 1) l a1 apart a3 = some true := by
  unfold vesperslaw21_BestTurned.f
  have ht : vesperslaw21_BestTurned.j0 (k + 1) l a1 apart a3 true = some true := by
    rw [vesperslaw21_BestTurned.j0, if_pos rfl, fixed_true]; rfl
  by_cases h1 : l.length ≤ 10
  · rw [if_neg (by omega)]
    by_cases h6 : apart.length ≤ 40
    · rw [if_neg (by omega)]
      by_cases hc : l.length = 0
      · rw [show ((l.length : Int) == 0) = true from by rw [hc]; rfl]
        exact ht
      · rw [show ((l.length : Int) == 0) = false from by simp; intro e; simp [e] at hc]
        rw [vesperslaw21_BestTurned.j0, if_neg (by simp), if_pos (by omega), if_pos (by omega)]
        have := turned_loop (seats := a1) h1 h6 h3 h3' l.length 0 k (by omega) (by omega) (by omega) (fun j hj => absurd hj (by omega))
        rw [show List.replicate ((l.length : Int)).toNat false = canned l.length 0 from by
          unfold canned
          rw [Int.toNat_natCast]
          apply List.ext_getElem
          · simp
          · intro j g1 g2; simp]
        exact this
    · rw [if_pos (by omega)]
      exact ht
  · rw [if_pos (by omega)]
    exact ht
theorem best_turned (l : List S33) (a1 : Int) (apart : List S39) (a3 : Int) (h3 : 0 ≤ a3) (h3' : a3 < 256) : ∃ k, vesperslaw21_BestTurned.f k l a1 apart a3 = some true :=
  ⟨_, best_turned_k l a1 apart a3 h3 h3' 20 (Nat.le_refl _)⟩
end Go.Proofs.Ythpibikfecjoiaa.Own
