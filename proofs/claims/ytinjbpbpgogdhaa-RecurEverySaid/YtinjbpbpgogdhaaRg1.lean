import Derived.Test.YtinjbpbpgogdhaaRg0
namespace Go.Proofs.Ytinjbpbpgogdhaa.Own
open Go.RowKit Go.Proofs.YtinjbpbpgogdhaaW.PrintWords Go.Proofs.YtinjbpbpgogdhaaW.PrintLast Go.Proofs.YtinjbpbpgogdhaaW.PrintMore
set_option linter.unusedVariables false
set_option linter.unusedSimpArgs false
theorem more_mono {a0 a8 : Int} {l4 : List Int} {P : Int → Bool} {day sy sm s1 s2 : Int} (h : s1 ≤ s2) (h2 : (periodL a0 a8 l4 P day sy sm s2).2 = true) : (periodL a0 a8 l4 P day sy sm s1).2 = true := by
  unfold periodL at h2 ⊢
  split at h2
  · rename_i e
    rw [if_pos e]
    have := of_decide_eq_true h2
    exact decide_eq_true (by omega)
  · rename_i e
    rw [if_neg e]
    split at h2
    · rename_i e2
      rw [if_pos e2]
      have := of_decide_eq_true h2
      exact decide_eq_true (by omega)
    · rename_i e2
      rw [if_neg e2]
      split at h2
      · rename_i e3
        rw [if_pos e3]
        have := of_decide_eq_true h2
        exact decide_eq_true (by omega)
      · rename_i e3
        rw [if_neg e3]
        have := of_decide_eq_true h2
        exact decide_eq_true (by omega)
theorem mul_le_mul_ {i j : Nat} {a1 : Int} (ha : 1 ≤ a1) (h : i ≤ j) : (i : Int) * a1 ≤ (j : Int) * a1 := Int.mul_le_mul_of_nonneg_right (by omega) (by omega)
theorem mul_lt_mul_ {i j : Nat} {a1 : Int} (ha : 1 ≤ a1) (h : i < j) : (i : Int) * a1 < (j : Int) * a1 := Int.mul_lt_mul_of_pos_right (by omega) (by omega)
theorem times_mem {a0 a1 a8 : Int} {l4 l7 : List Int} {P : Int → Bool} {day sy sm mi x : Int} (ha1 : 1 ≤ a1) (hd : 0 ≤ day) (hd1 : day ≤ 109938) (hy : 1900 ≤ sy) (hm : 1 ≤ sm) :
    x ∈ timesL a0 a1 0 (-1) a8 l4 l7 P day sy sm mi 0 ↔ ∃ j : Nat, (periodL a0 a8 l4 P day sy sm ((j : Int) * a1)).2 = true ∧ ∃ n ∈ placesL l7 (periodL a0 a8 l4 P day sy sm ((j : Int) * a1)).1, day ≤ n ∧ x = n * 1440 + mi := by
  unfold timesL
  rw [goPer_mem]
  constructor
  · rintro ⟨j, hj, h1, h2⟩
    have h3 := h1 j (Nat.le_refl _)
    rw [Nat.zero_add] at h2 h3
    exact ⟨j, h3, tms_mem.1 h2⟩
  · rintro ⟨j, h1, h2⟩
    have hb := period_more hd hd1 hy hm h1
    have hb2 : (j : Int) * 1 ≤ (j : Int) * a1 := Int.mul_le_mul_of_nonneg_left ha1 (by omega)
    refine ⟨j, by omega, fun i hi => ?_, ?_⟩
    · rw [Nat.zero_add]
      exact more_mono (mul_le_mul_ ha1 hi) h1
    · rw [Nat.zero_add]
      exact tms_mem.2 h2
theorem asc_times {a0 a1 a8 : Int} {l4 l7 : List Int} {P : Int → Bool} {day sy sm mi : Int} (ha1 : 1 ≤ a1) (hy : 0 ≤ sy) (hm : 1 ≤ sm) (hm2 : sm ≤ 12) : Asc (timesL a0 a1 0 (-1) a8 l4 l7 P day sy sm mi 0) := by
  unfold timesL
  refine asc_goPer (fun k => asc_DLp _ _ _ _ _ _ _ _ _ _) ?_ _ _ _
  intro k k' x y hk hx hy'
  exact period_order hy hm hm2 (Int.mul_nonneg (by omega) (by omega)) (mul_lt_mul_ ha1 hk) (placesL_mem hx) (placesL_mem hy')
/-- A rising row within bounds is short. -/
theorem asc_len : ∀ (l : List Int) (a b : Int), Asc l → (∀ x ∈ l, a ≤ x ∧ x < b) → (l.length : Int) ≤ max 0 (b - a)
  | [], a, b, _, _ => by simp; omega
  | x :: l, a, b, h, hb => by
    rw [Asc, List.pairwise_cons] at h
    have h1 := hb x List.mem_cons_self
    have h2 := asc_len l (x + 1) b h.2 (fun y hy => ⟨by have := h.1 y hy; omega, (hb y (List.mem_cons_of_mem _ hy)).2⟩)
    rw [List.length_cons]
    omega
theorem tw_mem {lim x : Int} : ∀ {l : List Int}, Asc l → (x ∈ l.takeWhile (fun y => decide (y < lim)) ↔ x ∈ l ∧ x < lim)
  | [], _ => by simp
  | y :: l, h => by
    rw [Asc, List.pairwise_cons] at h
    by_cases hy : y < lim
    · rw [List.takeWhile_cons_of_pos (by simpa using hy), List.mem_cons, List.mem_cons, tw_mem h.2]
      constructor
      · rintro (rfl | h')
        · exact ⟨.inl rfl, hy⟩
        · exact ⟨.inr h'.1, h'.2⟩
      · rintro ⟨rfl | h', h2⟩
        · exact .inl rfl
        · exact .inr ⟨h', h2⟩
    · rw [List.takeWhile_cons_of_neg (by simpa using hy)]
      refine ⟨fun h' => (by cases h'), ?_⟩
      rintro ⟨h', h2⟩
      rcases List.mem_cons.1 h' with rfl | h'
      · exact (hy h2).elim
      · have := h.1 x h'
        omega
theorem bet_eq {frm lim most : Int} : ∀ (T out : List Int), (∀ x ∈ T, frm ≤ x) → ((out ++ T.takeWhile (fun y => decide (y < lim))).length : Int) ≤ most → bet frm lim most out T = (out ++ T.takeWhile (fun y => decide (y < lim)), true)
  | [], out, _, _ => by simp [bet]
  | x :: T, out, h, hl => by
    unfold bet
    by_cases hx : lim ≤ x
    · rw [if_pos hx, List.takeWhile_cons_of_neg (by simp; omega), List.append_nil]
    · rw [List.takeWhile_cons_of_pos (by simp; omega)] at hl ⊢
      have h1 := h x List.mem_cons_self
      rw [List.length_append, List.length_cons] at hl
      rw [if_neg hx, if_neg (by omega), if_neg (by omega), bet_eq T (out ++ [x]) (fun y hy => h y (List.mem_cons_of_mem _ hy)) (by
        rw [List.length_append, List.length_append, List.length_singleton]
        omega), List.append_assoc]
      rfl
theorem asc_ext : ∀ (l l' : List Int), Asc l → Asc l' → (∀ x, x ∈ l ↔ x ∈ l') → l = l'
  | [], [], _, _, _ => rfl
  | [], y :: l', _, _, h => by have := (h y).2 List.mem_cons_self; cases this
  | x :: l, [], _, _, h => by have := (h x).1 List.mem_cons_self; cases this
  | x :: l, y :: l', h1, h2, h => by
    rw [Asc, List.pairwise_cons] at h1 h2
    have e : x = y := by
      rcases List.mem_cons.1 ((h x).1 List.mem_cons_self) with e | e
      · exact e
      · rcases List.mem_cons.1 ((h y).2 List.mem_cons_self) with e' | e'
        · exact e'.symm
        · have a := h2.1 x e
          have b := h1.1 y e'
          omega
    subst e
    congr 1
    refine asc_ext l l' h1.2 h2.2 (fun z => ?_)
    constructor
    · intro hz
      rcases List.mem_cons.1 ((h z).1 (List.mem_cons_of_mem _ hz)) with e | e
      · have := h1.1 z hz
        omega
      · exact e
    · intro hz
      rcases List.mem_cons.1 ((h z).2 (List.mem_cons_of_mem _ hz)) with e | e
      · have := h2.1 z hz
        omega
      · exact e
/-- What RecurEvery asks of: the times of the old and of the greater interval. -/
theorem every_plain {a0 a1 a8 m : Int} {l4 l7 : List Int} {P : Int → Bool} {day sy sm mi start : Int} (ha1 : 1 ≤ a1) (hm1 : 1 ≤ m) (hd : 0 ≤ day) (hd1 : day ≤ 109938) (hy : 1900 ≤ sy) (hm : 1 ≤ sm) (hm2 : sm ≤ 12) (hmi : 0 ≤ mi) (hmi2 : mi < 1440) (hst : start = day * 1440 + mi) :
    ∃ A B, bet start (start + 576000) 1000 [] (timesL a0 a1 0 (-1) a8 l4 l7 P day sy sm mi 0) = (A, true) ∧ bet start (start + 576000) 1000 [] (timesL a0 (a1 * m) 0 (-1) a8 l4 l7 P day sy sm mi 0) = (B, true) ∧ Asc A ∧ Asc B ∧ (∀ x ∈ B, x ∈ A) ∧ A.length ≤ 400 ∧ B.length ≤ 400 := by
  have ham : 1 ≤ a1 * m := by
    have : 1 * 1 ≤ a1 * m := Int.mul_le_mul ha1 hm1 (by omega) (by omega)
    omega
  have key : ∀ a, 1 ≤ a → (∀ x ∈ timesL a0 a 0 (-1) a8 l4 l7 P day sy sm mi 0, start ≤ x) ∧ ((timesL a0 a 0 (-1) a8 l4 l7 P day sy sm mi 0).takeWhile (fun y => decide (y < start + 576000))).length ≤ 400 := by
    intro a ha
    refine ⟨?_, ?_⟩
    · intro x hx
      obtain ⟨j, _, n, _, h1, rfl⟩ := (times_mem ha hd hd1 hy hm).1 hx
      omega
    · have hA := asc_times (a0 := a0) (a8 := a8) (l4 := l4) (l7 := l7) (P := P) (day := day) (mi := mi) ha (show 0 ≤ sy by omega) hm hm2
      have hAt : Asc ((timesL a0 a 0 (-1) a8 l4 l7 P day sy sm mi 0).takeWhile (fun y => decide (y < start + 576000))) := List.Pairwise.sublist (List.takeWhile_sublist _) hA
      have hq : Asc (((timesL a0 a 0 (-1) a8 l4 l7 P day sy sm mi 0).takeWhile (fun y => decide (y < start + 576000))).map (fun x => (x - mi) / 1440)) := by
        rw [Asc, List.pairwise_map]
        refine List.Pairwise.imp_of_mem ?_ hAt
        intro x y hx hy' hxy
        obtain ⟨_, _, n, _, h1, rfl⟩ := (times_mem ha hd hd1 hy hm).1 ((tw_mem hA).1 hx).1
        obtain ⟨_, _, n', _, h1', rfl⟩ := (times_mem ha hd hd1 hy hm).1 ((tw_mem hA).1 hy').1
        omega
      have hl := asc_len _ day (day + 400) hq (by
        intro z hz
        obtain ⟨x, hx, rfl⟩ := List.mem_map.1 hz
        obtain ⟨hx1, hx2⟩ := (tw_mem hA).1 hx
        obtain ⟨_, _, n, _, h1, rfl⟩ := (times_mem ha hd hd1 hy hm).1 hx1
        omega)
      rw [List.length_map] at hl
      omega
  obtain ⟨k1, k2⟩ := key a1 ha1
  obtain ⟨k3, k4⟩ := key (a1 * m) ham
  have hA1 := asc_times (a0 := a0) (a8 := a8) (l4 := l4) (l7 := l7) (P := P) (day := day) (mi := mi) ha1 (show 0 ≤ sy by omega) hm hm2
  have hA2 := asc_times (a0 := a0) (a8 := a8) (l4 := l4) (l7 := l7) (P := P) (day := day) (mi := mi) ham (show 0 ≤ sy by omega) hm hm2
  refine ⟨_, _, bet_eq _ [] k1 (by rw [List.nil_append]; omega), bet_eq _ [] k3 (by rw [List.nil_append]; omega), ?_, ?_, ?_, ?_, ?_⟩
  · rw [List.nil_append]
    exact List.Pairwise.sublist (List.takeWhile_sublist _) hA1
  · rw [List.nil_append]
    exact List.Pairwise.sublist (List.takeWhile_sublist _) hA2
  · intro x hx
    rw [List.nil_append] at hx ⊢
    obtain ⟨h1, h2⟩ := (tw_mem hA2).1 hx
    refine (tw_mem hA1).2 ⟨?_, h2⟩
    obtain ⟨j, h3, n, h4, h5, h6⟩ := (times_mem ham hd hd1 hy hm).1 h1
    have e : ((j * m.toNat : Nat) : Int) * a1 = (j : Int) * (a1 * m) := by
      rw [Int.natCast_mul, Int.toNat_of_nonneg (by omega), Int.mul_assoc, Int.mul_comm m a1]
    refine (times_mem ha1 hd hd1 hy hm).2 ⟨j * m.toNat, by rw [e]; exact h3, n, by rw [e]; exact h4, h5, h6⟩
  · rw [List.nil_append]; exact k2
  · rw [List.nil_append]; exact k4
end Go.Proofs.Ytinjbpbpgogdhaa.Own
