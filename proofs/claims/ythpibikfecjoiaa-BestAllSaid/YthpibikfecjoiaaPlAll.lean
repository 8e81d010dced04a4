import Derived.Test.YthpibikfecjoiaaPl1
namespace Go.Proofs.Ythpibikfecjoiaa.Own
open Go.RowKit Go.Proofs.YthpibikfecjoiaaW.PrintWords Go.Proofs.YthpibikfecjoiaaW.PrintLast Go.Proofs.YthpibikfecjoiaaW.PrintMore
set_option linter.unusedVariables false
set_option linter.unusedSimpArgs false
/-! BestAll: the search's first way goes through all who can come, and nothing is found behind it. -/
theorem vis_all {q : List Int → Int → Bool} {l : List S33} {can : List Bool} (hq : ∀ (j : Nat) (now : List Int), j < l.length → now.length ≤ j → q now (j : Int) = can.getD j false) (m : Nat) : ∀ i sum st, At l m i sum → st.found = false →
    (visP q l (restRow l can 0) m i (pre l (fun j => can.getD j false) i) sum st).bw = sum + rF l can m i ∧ (visP q l (restRow l can 0) m i (pre l (fun j => can.getD j false) i) sum st).us = pre l (fun j => can.getD j false) l.length := by
  induction m with
  | zero =>
    intro i sum st hA hf
    have hi : i = l.length := by have := hA.him; omega
    unfold visP
    rw [hf, Bool.false_and, if_neg (by simp)]
    exact ⟨by show sum = sum + 0; omega, by rw [← hi]⟩
  | succ m ih =>
    intro i sum st hA hf
    have hlt : i < l.length := by have := hA.him; omega
    unfold visP
    rw [hf, Bool.false_and, if_neg (by simp), hq i _ hlt (pre_len l _ i)]
    have hr : rF l can (m + 1) i = selV (fun j => can.getD j false) (wl l) i + rF l can m (i + 1) := by
      rw [(rF_sum hA.h16 (m + 1) i hA.him).1, (rF_sum hA.h16 m (i + 1) (by have := hA.him; omega)).1]
      rfl
    by_cases c : can.getD i false = true
    · have hs : selV (fun j => can.getD j false) (wl l) i = wl l i := by unfold selV; rw [if_pos c]
      rw [if_pos c, hA.wrap]
      have e : pre l (fun j => can.getD j false) i ++ [(rd_T33 l (i : Int)).f0] = pre l (fun j => can.getD j false) (i + 1) := by
        rw [pre_succ, if_pos c]; rfl
      rw [e]
      obtain ⟨h1, h2⟩ := ih (i + 1) (sum + wl l i) ⟨st.bw, st.us, wrap64 (st.vis + 1), false⟩ hA.with rfl
      have h3 := vis_found (q := q) (l := l) (restRow l can 0) m (i + 1) (pre l (fun j => can.getD j false) (i + 1)) (sum + wl l i) ⟨st.bw, st.us, wrap64 (st.vis + 1), false⟩
      generalize visP q l (restRow l can 0) m (i + 1) (pre l (fun j => can.getD j false) (i + 1)) (sum + wl l i) ⟨st.bw, st.us, wrap64 (st.vis + 1), false⟩ = s at h1 h2 h3 ⊢
      have hw := wt_le (rd_T33 l (i : Int))
      have hd : (s.found && decide (wrap64 (sum + rd (restRow l can 0) ((i + 1 : Nat) : Int)) ≤ s.bw)) = true := by
        rw [h3, (hA.less).rest]
        simp only [Bool.true_and, decide_eq_true_eq]
        have : wl l i = wt (rd_T33 l (i : Int)) := rfl
        omega
      have hv : ∀ m', (visP q l (restRow l can 0) m' (i + 1) (pre l (fun j => can.getD j false) i) sum s).bw = s.bw ∧ (visP q l (restRow l can 0) m' (i + 1) (pre l (fun j => can.getD j false) i) sum s).us = s.us := by
        intro m'
        cases m' <;> (unfold visP; rw [if_pos hd]; exact ⟨rfl, rfl⟩)
      rw [(hv m).1, (hv m).2, h1, h2]
      exact ⟨by omega, rfl⟩
    · have hs : selV (fun j => can.getD j false) (wl l) i = 0 := by unfold selV; rw [if_neg c]
      rw [if_neg c]
      have e : pre l (fun j => can.getD j false) i = pre l (fun j => can.getD j false) (i + 1) := by
        rw [pre_succ, if_neg c, List.append_nil]
      rw [e]
      obtain ⟨h1, h2⟩ := ih (i + 1) sum ⟨st.bw, st.us, wrap64 (st.vis + 1), false⟩ hA.less rfl
      exact ⟨by rw [h1]; omega, h2⟩
theorem choose_all {l : List S33} (can : List Bool) (h : l.length ≤ 16) :
    (chooseP l can (l.length : Int) []).bw = sumF (selV (fun j => can.getD j false) (wl l)) l.length 0 ∧ (chooseP l can (l.length : Int) []).us = pre l (fun j => can.getD j false) l.length := by
  have hq : ∀ (j : Nat) (now : List Int), j < l.length → now.length ≤ j → Q l can (l.length : Int) [] now (j : Int) = (canP l.length can).getD j false := by
    intro j now hj hn
    rw [canP_get hj, Bool.eq_iff_iff, q_iff hj]
    exact ⟨fun h => h.1, fun h => ⟨h, fun _ => by omega, fun _ _ => rfl⟩⟩
  obtain ⟨h1, h2⟩ := vis_all hq l.length 0 0 ⟨0, [], 0, false⟩ (at0 h) rfl
  have e : ∀ j, j < l.length → (canP l.length can).getD j false = can.getD j false := fun j hj => canP_get hj
  refine ⟨?_, ?_⟩
  · refine (show _ = 0 + rF l (canP l.length can) l.length 0 from h1).trans ?_
    rw [(rF_sum h l.length 0 (by omega)).1, Int.zero_add]
    apply sumF_congr
    intro j _ hj
    show (if (canP l.length can).getD j false = true then wl l j else 0) = if can.getD j false = true then wl l j else 0
    rw [e j (by omega)]
  · refine (show _ = pre l (fun j => (canP l.length can).getD j false) l.length from h2).trans ?_
    exact pre_congr _ e
theorem pre_at {l : List S33} {b : Nat → Bool} {i n : Nat} (h : i < n) (hb : b i = true) : (pre l b i).length < (pre l b n).length ∧ rd (pre l b n) ((pre l b i).length : Int) = ul l i := by
  have key : ∀ d, ∃ r, pre l b (i + 1 + d) = pre l b i ++ ([ul l i] ++ r) := by
    intro d
    induction d with
    | zero => exact ⟨[], by rw [Nat.add_zero, pre_succ, if_pos hb, List.append_nil]⟩
    | succ d ih =>
      obtain ⟨r, hr⟩ := ih
      exact ⟨r ++ (if b (i + 1 + d) = true then [ul l (i + 1 + d)] else []), by rw [← Nat.add_assoc, pre_succ, hr]; simp⟩
  obtain ⟨r, hr⟩ := key (n - (i + 1))
  rw [show i + 1 + (n - (i + 1)) = n from by omega] at hr
  rw [hr]
  refine ⟨by simp, ?_⟩
  unfold rd
  rw [Int.toNat_natCast, List.getD_eq_getElem?_getD]
  simp
theorem all_loop {l : List S33} {can : List Bool} (h : l.length ≤ 16) (vis : Int) (d : Nat) : ∀ i k, i + d = l.length → 2 * d + 1 ≤ k →
    vesperslaw21_BestAll.l0 k can ((pre l (fun j => can.getD j false) i).length : Int) (sumF (selV (fun j => can.getD j false) (wl l)) i 0) l (l.length : Int) (i : Int) (sumF (selV (fun j => can.getD j false) (wl l)) l.length 0) (pre l (fun j => can.getD j false) l.length) vis = some true := by
  induction d with
  | zero =>
    intro i k hi hk
    obtain ⟨k, rfl⟩ : ∃ m, k = m + 1 := ⟨k - 1, by omega⟩
    obtain rfl : i = l.length := by omega
    rw [vesperslaw21_BestAll.l0, if_neg (by omega), fixed_true]
    simp
  | succ d ih =>
    intro i k hi hk
    obtain ⟨k, rfl⟩ : ∃ m, k = m + 1 + 1 := ⟨k - 2, by omega⟩
    have hlt : i < l.length := by omega
    have hpl := pre_len l (fun j => can.getD j false) i
    have hwi : wrap64 ((i : Int) + 1) = ((i + 1 : Nat) : Int) := by unfold wrap64; omega
    have hrd : (if (i : Int) < (can.length : Int) then (vesperslaw21_BestAll.j2 (k + 1) can ((pre l (fun j => can.getD j false) i).length : Int) (sumF (selV (fun j => can.getD j false) (wl l)) i 0) l (l.length : Int) (i : Int) (rdOf false can (i : Int)) (sumF (selV (fun j => can.getD j false) (wl l)) l.length 0) (pre l (fun j => can.getD j false) l.length) vis ((rd_T33 l (i : Int)).f0) ((rd_T33 l (i : Int)).f1)) else (vesperslaw21_BestAll.j2 (k + 1) can ((pre l (fun j => can.getD j false) i).length : Int) (sumF (selV (fun j => can.getD j false) (wl l)) i 0) l (l.length : Int) (i : Int) false (sumF (selV (fun j => can.getD j false) (wl l)) l.length 0) (pre l (fun j => can.getD j false) l.length) vis ((rd_T33 l (i : Int)).f0) ((rd_T33 l (i : Int)).f1))) =
        vesperslaw21_BestAll.j2 (k + 1) can ((pre l (fun j => can.getD j false) i).length : Int) (sumF (selV (fun j => can.getD j false) (wl l)) i 0) l (l.length : Int) (i : Int) (can.getD i false) (sumF (selV (fun j => can.getD j false) (wl l)) l.length 0) (pre l (fun j => can.getD j false) l.length) vis ((rd_T33 l (i : Int)).f0) ((rd_T33 l (i : Int)).f1) := by
      by_cases c : i < can.length
      · rw [if_pos (by omega)]
        unfold rdOf
        rw [Int.toNat_natCast]
      · rw [if_neg (by omega)]
        congr 1
        rw [List.getD_eq_getElem?_getD, List.getElem?_eq_none (by omega)]
        rfl
    rw [vesperslaw21_BestAll.l0, if_pos (by omega), if_pos (by omega), if_pos (by omega), hrd, vesperslaw21_BestAll.j2]
    have hs : sumF (selV (fun j => can.getD j false) (wl l)) (i + 1) 0 = sumF (selV (fun j => can.getD j false) (wl l)) i 0 + (if can.getD i false = true then wl l i else 0) := by
      rw [sumF_split, Nat.zero_add]
      show _ + ((if can.getD i false = true then wl l i else 0) + 0) = _
      rw [Int.add_zero]
    have hb : 0 ≤ sumF (selV (fun j => can.getD j false) (wl l)) i 0 ∧ sumF (selV (fun j => can.getD j false) (wl l)) i 0 ≤ i * 1000 := by
      constructor
      · have := sumF_le (f := fun _ => 0) (g := selV (fun j => can.getD j false) (wl l)) i 0 (fun j _ _ => by
          unfold selV wl
          have := wt_le (rd_T33 l (j : Int))
          split <;> omega)
        rw [sumF_const] at this
        omega
      · rw [← sumF_const 1000 i 0]
        apply sumF_le
        intro j _ _
        unfold selV wl
        have := wt_le (rd_T33 l (j : Int))
        split <;> omega
    by_cases c : can.getD i false = true
    · obtain ⟨h1, h2⟩ := pre_at (l := l) (b := fun j => can.getD j false) hlt c
      rw [if_pos c, if_neg (by omega), if_pos (by omega), if_pos (by omega), h2, if_pos (show ul l i = (rd_T33 l (i : Int)).f0 from rfl), hwi]
      have h3 := ih (i + 1) k (by omega) (by omega)
      rw [pre_succ, if_pos c, hs, if_pos c, List.length_append] at h3
      have hw := wt_le (rd_T33 l (i : Int))
      rw [show wrap64 (((pre l (fun j => can.getD j false) i).length : Int) + 1) = (((pre l (fun j => can.getD j false) i).length + [ul l i].length : Nat) : Int) from by
          rw [Int.natCast_add]
          show wrap64 (_ + 1) = _ + 1
          unfold wrap64; omega,
        show wrap64 (sumF (selV (fun j => can.getD j false) (wl l)) i 0 + mn (mx (rd_T33 l (i : Int)).f1 0) 1000) = sumF (selV (fun j => can.getD j false) (wl l)) i 0 + wl l i from by
          show wrap64 (_ + wt (rd_T33 l (i : Int))) = _ + wt (rd_T33 l (i : Int))
          unfold wrap64; omega]
      exact h3
    · rw [if_neg c, hwi]
      have h3 := ih (i + 1) k (by omega) (by omega)
      rw [pre_succ, if_neg c, hs, if_neg c, List.append_nil, Int.add_zero] at h3
      exact h3
theorem best_all_k (l : List S33) (can : List Bool) (k : Nat) (hk : 40 ≤ k) : vesperslaw21_BestAll.f (k + 1) l can = some true := by
  unfold vesperslaw21_BestAll.f
  by_cases h1 : l.length ≤ 16
  · rw [if_neg (by omega)]
    by_cases h2 : can.length ≤ 100
    · rw [show decide ((can.length : Int) > 100) = false from decide_eq_false (by omega), vesperslaw21_BestAll.j0, if_neg (by simp), choose_f h1 (by simp)]
      simp only [Option.bind_some]
      obtain ⟨e1, e2⟩ := choose_all can h1
      rw [e1, e2]
      exact all_loop h1 _ l.length 0 k (by omega) (by omega)
    · rw [show decide ((can.length : Int) > 100) = true from decide_eq_true (by omega), vesperslaw21_BestAll.j0, if_pos rfl, fixed_true]
      rfl
  · rw [if_pos (by omega), vesperslaw21_BestAll.j0, if_pos rfl, fixed_true]
    rfl
theorem best_all (l : List S33) (can : List Bool) : ∃ k, vesperslaw21_BestAll.f k l can = some true := ⟨40 + 1, best_all_k l can 40 (Nat.le_refl _)⟩
end Go.Proofs.Ythpibikfecjoiaa.Own
