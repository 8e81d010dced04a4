import Derived.Test.YthpibikfecjoiaaBst
namespace Go.Proofs.Ythpibikfecjoiaa.Own
open Go.RowKit Go.Proofs.YthpibikfecjoiaaW.PrintWords Go.Proofs.YthpibikfecjoiaaW.PrintLast Go.Proofs.YthpibikfecjoiaaW.PrintMore
set_option linter.unusedVariables false
set_option linter.unusedSimpArgs false
/-! The plain law of the best choice: the search by branch and bound finds a choice that may be, and none that may be counts more. -/
/-- f's values at m places from i on, together. -/
def sumF (f : Nat → Int) : Nat → Nat → Int
  | 0, _ => 0
  | m + 1, i => f i + sumF f m (i + 1)
theorem sumF_le {f g : Nat → Int} (m : Nat) : ∀ i, (∀ j, i ≤ j → j < i + m → f j ≤ g j) → sumF f m i ≤ sumF g m i := by
  induction m with
  | zero => intro i _; exact Int.le_refl _
  | succ m ih =>
    intro i h
    unfold sumF
    have h1 := h i (Nat.le_refl _) (by omega)
    have h2 := ih (i + 1) (fun j a b => h j (by omega) (by omega))
    omega
theorem sumF_congr {f g : Nat → Int} (m : Nat) (i : Nat) (h : ∀ j, i ≤ j → j < i + m → f j = g j) : sumF f m i = sumF g m i :=
  Int.le_antisymm (sumF_le m i fun j a b => Int.le_of_eq (h j a b)) (sumF_le m i fun j a b => Int.le_of_eq (h j a b).symm)
theorem sumF_const (c : Int) (m : Nat) : ∀ i, sumF (fun _ => c) m i = m * c := by
  induction m with
  | zero => intro i; simp [sumF]
  | succ m ih => intro i; unfold sumF; rw [ih, Int.natCast_add, Int.add_mul]; simp; omega
theorem sumF_split (f : Nat → Int) (a : Nat) : ∀ b i, sumF f (a + b) i = sumF f a i + sumF f b (i + a) := by
  induction a with
  | zero => intro b i; simp [sumF]
  | succ a ih =>
    intro b i
    rw [show a + 1 + b = (a + b) + 1 from by omega, show sumF f (a + b + 1) i = f i + sumF f (a + b) (i + 1) from rfl, show sumF f (a + 1) i = f i + sumF f a (i + 1) from rfl, ih b (i + 1), show i + 1 + a = i + (a + 1) from by omega]
    omega
theorem sumF_shift (f : Nat → Int) (c m : Nat) : ∀ i, sumF (fun j => f (j + c)) m i = sumF f m (i + c) := by
  induction m with
  | zero => intro i; rfl
  | succ m ih => intro i; unfold sumF; rw [ih, show i + 1 + c = i + c + 1 from by omega]
theorem sumF_mul (f : Nat → Int) (c : Int) (m : Nat) : ∀ i, sumF (fun j => c * f j) m i = c * sumF f m i := by
  induction m with
  | zero => intro i; simp [sumF]
  | succ m ih => intro i; unfold sumF; rw [ih, Int.mul_add]
def selV (b : Nat → Bool) (g : Nat → Int) (j : Nat) : Int := if b j = true then g j else 0
theorem wt_le (x : S33) : 0 ≤ wt x ∧ wt x ≤ 1000 := by
  unfold wt mn mx
  (repeat' split) <;> omega
def wl (l : List S33) (j : Nat) : Int := wt (rd_T33 l (j : Int))
def ul (l : List S33) (j : Nat) : Int := (rd_T33 l (j : Int)).f0
/-- The users at the places below i that are chosen. -/
def pre (l : List S33) (b : Nat → Bool) (i : Nat) : List Int := ((List.range i).filter b).map (ul l)
theorem pre_succ (l : List S33) (b : Nat → Bool) (i : Nat) : pre l b (i + 1) = pre l b i ++ (if b i = true then [ul l i] else []) := by
  unfold pre
  rw [List.range_succ, List.filter_append, List.map_append]
  congr 1
  by_cases h : b i = true
  · rw [if_pos h]; simp [h]
  · rw [if_neg h]; simp [h]
theorem pre_len (l : List S33) (b : Nat → Bool) (i : Nat) : (pre l b i).length ≤ i := by
  unfold pre
  rw [List.length_map]
  have := List.length_filter_le b (List.range i)
  rwa [List.length_range] at this
theorem pre_congr {l : List S33} {b c : Nat → Bool} (i : Nat) (h : ∀ j, j < i → b j = c j) : pre l b i = pre l c i := by
  unfold pre
  congr 1
  apply List.filter_congr
  intro x hx
  exact h x (List.mem_range.1 hx)
theorem rF_sum {l : List S33} {can : List Bool} (h16 : l.length ≤ 16) (m : Nat) : ∀ i, i + m = l.length → rF l can m i = sumF (selV (fun j => can.getD j false) (wl l)) m i ∧ 0 ≤ rF l can m i ∧ rF l can m i ≤ 1000 * m := by
  induction m with
  | zero => intro i h; exact ⟨rfl, by show (0 : Int) ≤ 0; omega, by show (0 : Int) ≤ 1000 * 0; omega⟩
  | succ m ih =>
    intro i h
    obtain ⟨h1, h2, h3⟩ := ih (i + 1) (by omega)
    have hw := wt_le (rd_T33 l (i : Int))
    unfold rF sumF
    rw [← h1]
    unfold selV
    by_cases c : can.getD i false = true
    · rw [if_pos c, if_pos c]
      have : wrap64 (rF l can m (i + 1) + wt (rd_T33 l (i : Int))) = rF l can m (i + 1) + wt (rd_T33 l (i : Int)) := by unfold wrap64; omega
      rw [this]
      refine ⟨?_, by omega, by omega⟩
      unfold wl; omega
    · rw [if_neg c, if_neg c]
      exact ⟨by omega, h2, by omega⟩
theorem rd_rest {l : List S33} {can : List Bool} {i : Nat} (hi : i ≤ l.length) : rd (restRow l can 0) (i : Int) = rF l can (l.length - i) i := by
  unfold rd restRow
  rw [Int.toNat_natCast, List.getD_eq_getElem?_getD]
  simp [show i < l.length + 1 from by omega]
/-- b may be, as the search asks it. -/
def Fz (q : List Int → Int → Bool) (l : List S33) (b : Nat → Bool) : Prop := ∀ j, j < l.length → b j = true → q (pre l b j) (j : Int) = true
section search
variable {q : List Int → Int → Bool} {l : List S33} {can : List Bool}
theorem vis_found (rest : List Int) (m : Nat) : ∀ i now sum st, (visP q l rest m i now sum st).found = true := by
  induction m with
  | zero =>
    intro i now sum st
    unfold visP
    split
    · rename_i h; simp only [Bool.and_eq_true] at h; exact h.1
    · rfl
  | succ m ih =>
    intro i now sum st
    unfold visP
    split
    · rename_i h; simp only [Bool.and_eq_true] at h; exact h.1
    · exact ih _ _ _ _
/-- What is known at a place. -/
structure At (l : List S33) (m i : Nat) (sum : Int) : Prop where
  h16 : l.length ≤ 16
  him : i + m = l.length
  s0 : 0 ≤ sum
  s1 : sum ≤ 1000 * (i : Int)
theorem At.with {m i : Nat} {sum : Int} (h : At l (m + 1) i sum) : At l m (i + 1) (sum + wl l i) := by
  have := wt_le (rd_T33 l (i : Int))
  have h1 := h.s0
  have h2 := h.s1
  refine ⟨h.h16, by have := h.him; omega, by unfold wl; omega, by unfold wl; omega⟩
theorem At.less {m i : Nat} {sum : Int} (h : At l (m + 1) i sum) : At l m (i + 1) sum :=
  ⟨h.h16, by have := h.him; omega, h.s0, by have := h.s1; omega⟩
theorem At.wrap {m i : Nat} {sum : Int} (h : At l (m + 1) i sum) : wrap64 (sum + wt (rd_T33 l (i : Int))) = sum + wl l i := by
  have := wt_le (rd_T33 l (i : Int))
  have h0 := h.h16
  have h1 := h.s0
  have h2 := h.s1
  have h3 := h.him
  unfold wl wrap64; omega
theorem At.rest {m i : Nat} {sum : Int} (h : At l m i sum) : wrap64 (sum + rd (restRow l can 0) (i : Int)) = sum + rF l can m i := by
  have h0 := h.h16
  have h1 := h.s0
  have h2 := h.s1
  have h3 := h.him
  rw [rd_rest (by omega), show l.length - i = m from by omega]
  obtain ⟨_, a, b⟩ := rF_sum (can := can) h0 m i h3
  unfold wrap64; omega
/-- What has been found never counts less behind a visit. -/
theorem vis_mono (m : Nat) : ∀ i now sum st, At l m i sum → st.found = true → st.bw ≤ (visP q l (restRow l can 0) m i now sum st).bw := by
  induction m with
  | zero =>
    intro i now sum st hA hf
    unfold visP
    rw [hA.rest, hf]
    split
    · exact Int.le_refl _
    · rename_i h
      simp only [Bool.true_and, decide_eq_true_eq] at h
      show st.bw ≤ sum
      have : rF l can 0 i = 0 := rfl
      omega
  | succ m ih =>
    intro i now sum st hA hf
    unfold visP
    split
    · exact Int.le_refl _
    · split
      · rw [hA.wrap]
        exact Int.le_trans (ih _ _ _ ⟨st.bw, st.us, wrap64 (st.vis + 1), st.found⟩ hA.with hf) (ih _ _ _ _ hA.less (vis_found _ _ _ _ _ _))
      · exact ih _ _ _ ⟨st.bw, st.us, wrap64 (st.vis + 1), st.found⟩ hA.less hf
/-- No choice that may be, and goes on as the one so far, counts more. -/
theorem vis_most {b : Nat → Bool} (hb : Fz q l b) (hcan : ∀ (j : Nat) now, q now (j : Int) = true → can.getD j false = true) (m : Nat) : ∀ i now sum st, At l m i sum → now = pre l b i →
    sum + sumF (selV b (wl l)) m i ≤ (visP q l (restRow l can 0) m i now sum st).bw := by
  induction m with
  | zero =>
    intro i now sum st hA hn
    unfold visP
    rw [hA.rest]
    show sum + 0 ≤ _
    split
    · rename_i h
      simp only [Bool.and_eq_true, decide_eq_true_eq] at h
      have : rF l can 0 i = 0 := rfl
      show sum + 0 ≤ st.bw
      omega
    · show sum + 0 ≤ sum
      omega
  | succ m ih =>
    intro i now sum st hA hn
    unfold visP
    rw [hA.rest]
    split
    · rename_i h
      simp only [Bool.and_eq_true, decide_eq_true_eq] at h
      show _ ≤ st.bw
      have h1 : sumF (selV b (wl l)) (m + 1) i ≤ rF l can (m + 1) i := by
        rw [(rF_sum hA.h16 (m + 1) i hA.him).1]
        apply sumF_le
        intro j hj1 hj2
        have hlt : j < l.length := by have := hA.him; omega
        unfold selV
        by_cases c : b j = true
        · rw [if_pos c, if_pos (hcan j _ (hb j hlt c))]; exact Int.le_refl _
        · rw [if_neg c]
          have := wt_le (rd_T33 l (j : Int))
          split
          · exact this.1
          · exact Int.le_refl _
      omega
    · have hlt : i < l.length := by have := hA.him; omega
      unfold sumF
      rw [show selV b (wl l) i = if b i = true then wl l i else 0 from rfl]
      by_cases c : b i = true
      · have hq := hb i hlt c
        rw [← hn] at hq
        rw [if_pos c, if_pos hq, hA.wrap]
        have h1 := ih (i + 1) (now ++ [(rd_T33 l (i : Int)).f0]) (sum + wl l i) ⟨st.bw, st.us, wrap64 (st.vis + 1), st.found⟩ hA.with (by rw [pre_succ, if_pos c, hn]; rfl)
        have h2 := vis_mono (q := q) (can := can) m (i + 1) now sum _ hA.less (vis_found (q := q) (l := l) (restRow l can 0) m (i + 1) (now ++ [(rd_T33 l (i : Int)).f0]) (sum + wl l i) ⟨st.bw, st.us, wrap64 (st.vis + 1), st.found⟩)
        omega
      · rw [if_neg c]
        have h1 := fun st' => ih (i + 1) now sum st' hA.less (by rw [pre_succ, if_neg c, hn, List.append_nil])
        have h2 := h1 (if q now (i : Int) = true then visP q l (restRow l can 0) m (i + 1) (now ++ [(rd_T33 l (i : Int)).f0]) (wrap64 (sum + wt (rd_T33 l (i : Int)))) ⟨st.bw, st.us, wrap64 (st.vis + 1), st.found⟩ else ⟨st.bw, st.us, wrap64 (st.vis + 1), st.found⟩)
        omega
/-- The choice b may be from the place i on. -/
def From (q : List Int → Int → Bool) (l : List S33) (b : Nat → Bool) (i : Nat) : Prop := ∀ j, i ≤ j → j < l.length → b j = true → q (pre l b j) (j : Int) = true
def upd (b : Nat → Bool) (i : Nat) (v : Bool) (j : Nat) : Bool := if j = i then v else b j
/-- What is found is what was, or a choice that may be, and goes on as the one so far. -/
theorem vis_is (m : Nat) : ∀ i b sum st, At l m i sum →
    (st.found = true ∧ (visP q l (restRow l can 0) m i (pre l b i) sum st).bw = st.bw ∧ (visP q l (restRow l can 0) m i (pre l b i) sum st).us = st.us) ∨
    ∃ c : Nat → Bool, (∀ j, j < i → c j = b j) ∧ From q l c i ∧ (visP q l (restRow l can 0) m i (pre l b i) sum st).bw = sum + sumF (selV c (wl l)) m i ∧ (visP q l (restRow l can 0) m i (pre l b i) sum st).us = pre l c l.length := by
  induction m with
  | zero =>
    intro i b sum st hA
    unfold visP
    split
    · rename_i h
      simp only [Bool.and_eq_true] at h
      exact .inl ⟨h.1, rfl, rfl⟩
    · have hi : i = l.length := by have := hA.him; omega
      exact .inr ⟨b, fun _ _ => rfl, fun j h1 h2 => absurd h2 (by omega), by show sum = sum + 0; omega, by rw [← hi]⟩
  | succ m ih =>
    intro i b sum st hA
    have hlt : i < l.length := by have := hA.him; omega
    unfold visP
    split
    · rename_i h
      simp only [Bool.and_eq_true] at h
      exact .inl ⟨h.1, rfl, rfl⟩
    · have hwo : ∀ st', (st'.found = true ∧ (visP q l (restRow l can 0) m (i + 1) (pre l b i) sum st').bw = st'.bw ∧ (visP q l (restRow l can 0) m (i + 1) (pre l b i) sum st').us = st'.us) ∨
          ∃ c : Nat → Bool, (∀ j, j < i → c j = b j) ∧ From q l c i ∧ (visP q l (restRow l can 0) m (i + 1) (pre l b i) sum st').bw = sum + sumF (selV c (wl l)) (m + 1) i ∧ (visP q l (restRow l can 0) m (i + 1) (pre l b i) sum st').us = pre l c l.length := by
        intro st'
        have e : pre l b i = pre l (upd b i false) (i + 1) := by
          rw [pre_succ, show upd b i false i = false from by simp [upd], if_neg (by simp), List.append_nil]
          exact pre_congr i (fun j hj => by simp [upd, Nat.ne_of_lt hj])
        rw [e]
        rcases ih (i + 1) (upd b i false) sum st' hA.less with h | ⟨c, h1, h2, h3, h4⟩
        · exact .inl h
        · have ci : c i = false := by rw [h1 i (by omega)]; simp [upd]
          refine .inr ⟨c, fun j hj => by rw [h1 j (by omega)]; simp [upd, Nat.ne_of_lt hj], fun j a b' hc => ?_, ?_, h4⟩
          · rcases Nat.eq_or_lt_of_le a with rfl | a
            · rw [ci] at hc; cases hc
            · exact h2 j a b' hc
          · rw [h3]
            show sum + sumF (selV c (wl l)) m (i + 1) = sum + (selV c (wl l) i + sumF (selV c (wl l)) m (i + 1))
            rw [show selV c (wl l) i = 0 from by unfold selV; rw [ci]; rfl]
            omega
      split
      · rename_i hq
        rw [hA.wrap]
        have e : pre l b i ++ [(rd_T33 l (i : Int)).f0] = pre l (upd b i true) (i + 1) := by
          rw [pre_succ, show upd b i true i = true from by simp [upd], if_pos rfl, ← pre_congr (b := b) (c := upd b i true) i (fun j hj => by simp [upd, Nat.ne_of_lt hj])]
          rfl
        rw [e]
        have hin := ih (i + 1) (upd b i true) (sum + wl l i) ⟨st.bw, st.us, wrap64 (st.vis + 1), st.found⟩ hA.with
        have hout := hwo (visP q l (restRow l can 0) m (i + 1) (pre l (upd b i true) (i + 1)) (sum + wl l i) ⟨st.bw, st.us, wrap64 (st.vis + 1), st.found⟩)
        rcases hout with ⟨_, h2, h3⟩ | h
        · rw [h2, h3]
          rcases hin with h | ⟨c, h1, h2, h3, h4⟩
          · exact .inl h
          · have ci : c i = true := by rw [h1 i (by omega)]; simp [upd]
            refine .inr ⟨c, fun j hj => by rw [h1 j (by omega)]; simp [upd, Nat.ne_of_lt hj], fun j a b' hc => ?_, ?_, h4⟩
            · rcases Nat.eq_or_lt_of_le a with rfl | a
              · rw [pre_congr (c := b) i (fun j hj => by rw [h1 j (by omega)]; simp [upd, Nat.ne_of_lt hj])]; exact hq
              · exact h2 j a b' hc
            · rw [h3]
              show sum + wl l i + sumF (selV c (wl l)) m (i + 1) = sum + (selV c (wl l) i + sumF (selV c (wl l)) m (i + 1))
              rw [show selV c (wl l) i = wl l i from by unfold selV; rw [ci]; rfl]
              omega
        · exact .inr h
      · rename_i hq
        rcases hwo ⟨st.bw, st.us, wrap64 (st.vis + 1), st.found⟩ with h | h
        · exact .inl h
        · exact .inr h
/-- How many parts are visited. -/
theorem vis_few (rest : List Int) (m : Nat) : ∀ i now sum st, m ≤ 16 → 0 ≤ st.vis → st.vis + 2 ^ (m + 1) ≤ 1000000 →
    st.vis ≤ (visP q l rest m i now sum st).vis ∧ (visP q l rest m i now sum st).vis ≤ st.vis + 2 ^ (m + 1) - 1 := by
  induction m with
  | zero =>
    intro i now sum st hm h0 h1
    have : wrap64 (st.vis + 1) = st.vis + 1 := by simp at h1; unfold wrap64; omega
    unfold visP
    split <;> (show st.vis ≤ wrap64 (st.vis + 1) ∧ wrap64 (st.vis + 1) ≤ st.vis + 2 ^ (0 + 1) - 1; rw [this]; simp; omega)
  | succ m ih =>
    intro i now sum st hm h0 h1
    have hp : (2 : Int) ^ (m + 1 + 1) = 2 * 2 ^ (m + 1) := by rw [Int.pow_succ]; omega
    have hp0 : (0 : Int) < 2 ^ (m + 1) := Int.pow_pos (by omega)
    generalize hP : (2 : Int) ^ (m + 1) = P at *
    rw [hp] at h1 ⊢
    have hw : wrap64 (st.vis + 1) = st.vis + 1 := by unfold wrap64; omega
    unfold visP
    split
    · show st.vis ≤ wrap64 (st.vis + 1) ∧ wrap64 (st.vis + 1) ≤ _; omega
    · rw [hw]
      split
      · have a := ih (i + 1) (now ++ [(rd_T33 l (i : Int)).f0]) (wrap64 (sum + wt (rd_T33 l (i : Int)))) ⟨st.bw, st.us, st.vis + 1, st.found⟩ (by omega) (by show 0 ≤ st.vis + 1; omega) (by show st.vis + 1 + P ≤ _; omega)
        have b := ih (i + 1) now sum (visP q l rest m (i + 1) (now ++ [(rd_T33 l (i : Int)).f0]) (wrap64 (sum + wt (rd_T33 l (i : Int)))) ⟨st.bw, st.us, st.vis + 1, st.found⟩) (by omega) (by have := a.1; simp only at this; omega) (by have := a.2; simp only at this; omega)
        have a1 := a.1
        have a2 := a.2
        simp only at a1 a2
        omega
      · have b := ih (i + 1) now sum ⟨st.bw, st.us, st.vis + 1, st.found⟩ (by omega) (by show 0 ≤ st.vis + 1; omega) (by show st.vis + 1 + P ≤ _; omega)
        have b1 := b.1
        have b2 := b.2
        simp only at b1 b2
        omega
end search
end Go.Proofs.Ythpibikfecjoiaa.Own
