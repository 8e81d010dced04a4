-- own text: texts of this session merged by a program of it (merge.py), declarations that nothing reaches left out (prune.py)
import Derived.Test.YtinjbpbpgogdhaaHa13
import Derived.Test.YtinjbpbpgogdhaaHa14
section
namespace Go.Proofs.Ytinjbpbpgogdhaa.Own
open Go.RowKit Go.Proofs.YtinjbpbpgogdhaaW.PrintWords Go.Proofs.YtinjbpbpgogdhaaW.PrintLast Go.Proofs.YtinjbpbpgogdhaaW.PrintMore
set_option linter.unusedVariables false
set_option linter.unusedSimpArgs false
/-- Is a number in a row? -/
def hasI (l : List Int) (a : Int) : Bool := decide (∃ i, i < l.length ∧ rd l (i : Int) = a)
theorem index_f {l : List Int} {a : Int} (hl : l.length ≤ 10000) : ∀ (k j : Nat), l.length ≤ j + k → j ≤ l.length → (∀ i : Nat, i < j → rd l (i : Int) ≠ a) → ∃ r, slices_Index_int_int.l0 (k + 1) l a (l.length : Int) (j : Int) = some r ∧ decide (r ≥ 0) = hasI l a
  | k, j, h1, h2, h3 => by
    rw [slices_Index_int_int.l0]
    by_cases hlt : j < l.length
    · obtain ⟨k', rfl⟩ : ∃ k', k = k' + 1 := ⟨k - 1, by omega⟩
      rw [if_pos (by omega), if_pos (by omega), if_pos (by omega)]
      by_cases he : a = rd l (j : Int)
      · rw [if_pos he]
        refine ⟨_, rfl, ?_⟩
        rw [decide_eq_true (by omega)]
        exact (decide_eq_true ⟨j, hlt, he.symm⟩).symm
      · rw [if_neg he, show wrap64 ((j : Int) + 1) = ((j + 1 : Nat) : Int) from (IntWalk.wrap64_in _ (by omega)).trans (by omega)]
        exact index_f hl k' (j + 1) (by omega) (by omega) (fun i hi => by
          rcases Nat.lt_or_ge i j with h | h
          · exact h3 i h
          · obtain rfl : i = j := by omega
            exact fun e => he e.symm)
    · rw [if_neg (by omega)]
      refine ⟨_, rfl, ?_⟩
      have hf : hasI l a = false := decide_eq_false (fun ⟨i, hi, h⟩ => h3 i (by omega) h)
      rw [hf]
      rfl
theorem has_any (w : World) (l : List Int) (A : Option Addr) (c : Nat) (a : Int) (hC : (Kd.int .i64).C w A l.length l) (hc : l.length ≤ c) (hl : l.length ≤ 10000) :
    Calls Try.prog 48 #[.slice A l.length c, .int .i64 a] w fun e w' => e = .returned (.bool (hasI l a)) ∧ Below w.heap.size w w' := by
  obtain ⟨r, h1, h2⟩ := index_f (a := a) hl l.length 0 (by omega) (Nat.zero_le _) (fun i hi => by omega)
  have hf : slices_Contains_int_int.f (l.length + 1) l a = some (hasI l a) := by
    unfold slices_Contains_int_int.f slices_Index_int_int.f
    rw [show (0 : Int) = ((0 : Nat) : Int) from rfl, h1, ← h2]
    rfl
  refine (slices_Contains_int_int.calls _ A c l a _ w hC hc hf).mono ?_
  rintro e w' ⟨rfl, hd⟩
  exact ⟨rfl, drawn_below hd⟩
/-- A walker, as it lies. -/
structure Wk (w : World) (g : Nat) (a0 a1 a2 a3 a8 : Int) (A4 A5 A6 A7 : Option Addr) (c4 c5 c6 c7 : Nat) (l4 l5 l7 : List Int) (l6 : List S58) (day y m d mi : Int) : Prop where
  hg : w.heap[g]? = some (.cells #[.int .i64 a0, .int .i64 a1, .int .i64 a2, .int .i64 a3, .slice A4 l4.length c4, .slice A5 l5.length c5, .slice A6 l6.length c6, .slice A7 l7.length c7, .int .i64 a8, .int .i64 day, .int .i64 y, .int .i64 m, .int .i64 d, .int .i64 mi] 62 (0, 0))
  rc : RC w A4 A5 A6 A7 c4 c5 c6 c7 l4 l5 l7 l6
theorem Wk.below {w W : World} {g : Nat} {a0 a1 a2 a3 a8 : Int} {A4 A5 A6 A7 : Option Addr} {c4 c5 c6 c7 : Nat} {l4 l5 l7 : List Int} {l6 : List S58} {day y m d mi : Int} (h : Wk w g a0 a1 a2 a3 a8 A4 A5 A6 A7 c4 c5 c6 c7 l4 l5 l7 l6 day y m d mi) (hb : Below w.heap.size w W) : Wk W g a0 a1 a2 a3 a8 A4 A5 A6 A7 c4 c5 c6 c7 l4 l5 l7 l6 day y m d mi := ⟨keep_below hb h.hg, h.rc.below hb⟩
/-- A month's length, told. -/
def lenZ (y m : Int) : Int := (civil_Length.f 5 y m).getD 0
/-- A day's weekday, told. -/
def wdZ (n : Int) : Int := Int.tmod (wrap64 ((Int.tmod n 7) + 7)) 7
/-- right, told. -/
def rightB (l4 l5 : List Int) (l6 : List S58) (n y m d : Int) : Bool :=
  (decide (l4.length = 0) || hasI l4 m) && (decide (l5.length = 0) || hasI l5 d || hasI l5 (d - lenZ y m - 1)) && (decide (l6.length = 0) || anyD l6 (fun x => nthOne x d (lenZ y m) (wdZ n)))
noncomputable def ri4C : Code := (Try.f49.body.bind (regC 4)).getD .skip
set_option maxHeartbeats 4000000 in
set_option maxRecDepth 100000 in
theorem ri4_wp {w : World} {g5 : Nat} {y m d L : Int} {Q : Exit → Act → World → Prop} {c0 c1 c2 c3 c4 c6 c7 c8 c9 c10 c11 c12 c13 c14 c15 c16 c17 c18 c19 c20 c21 c22 c23 c24 c25 c26 c27 c28 c29 c30 c31 c32 c33 c34 c35 c36 c37 c38 c39 c40 c41 c42 c43 c44 c45 c46 c47 c48 c49 c50 c51 c52 c53 c54 c55 c56 c57 c58 c59 c60 c61 c62 c63 c64 : Value}
    (H5 : Hid (w.heap[g5]? = some (.cells #[.int .i64 y, .int .i64 m, .int .i64 d] 37 (0, 0)))) (HL : Hid (civil_Length.f 5 y m = some L)) (hd : 1 ≤ d) (hdl : d ≤ L) (hL31 : L ≤ 31)
    (HP : Hid (∀ c (a : Act) (N : Option Tmp) (v : Value) (w : World), Q (.panic c) (a.put N v) w → Q (.panic c) a w)) (HE : Hid (∀ (d25 d26 d27 d28 d29 d30 d31 d32 d33 : Value) (w' : World), Hid (Below w.heap.size w w') → Q .normal ⟨#[c0, c1, c2, c3, c4, .pointer (some ⟨g5, 0, none⟩), c6, c7, .int .i64 (d - L - 1), c9, c10, c11, c12, c13, c14, c15, c16, c17, c18, c19, c20, c21, c22, c23, c24, d25, d26, d27, d28, d29, d30, d31, d32, d33, c34, c35, c36, c37, c38, c39, c40, c41, c42, c43, c44, c45, c46, c47, c48, c49, c50, c51, c52, c53, c54, c55, c56, c57, c58, c59, c60, c61, c62, c63, c64], []⟩ w')) :
    Code.wp Try.prog ri4C Q ⟨#[c0, c1, c2, c3, c4, .pointer (some ⟨g5, 0, none⟩), c6, c7, c8, c9, c10, c11, c12, c13, c14, c15, c16, c17, c18, c19, c20, c21, c22, c23, c24, c25, c26, c27, c28, c29, c30, c31, c32, c33, c34, c35, c36, c37, c38, c39, c40, c41, c42, c43, c44, c45, c46, c47, c48, c49, c50, c51, c52, c53, c54, c55, c56, c57, c58, c59, c60, c61, c62, c63, c64], []⟩ w := by
  unfold ri4C
  conv => arg 2; whnf
  have k1 : wrap64 (d - L) = d - L := IntWalk.wrap64_in _ (by omega)
  have k2 : wrap64 (d - L - 1) = d - L - 1 := IntWalk.wrap64_in _ (by clear k1; omega)
  refine start_ (n := 10) (S := fun w' => w'.cell? ⟨g5, 0, none⟩ = some (.int .i64 y) ∧ w'.cell? ⟨g5, 1, none⟩ = some (.int .i64 m) ∧ w'.cell? ⟨g5, 2, none⟩ = some (.int .i64 d)) (ds := []) #[false, false, false, false, false, false, false, false, false, false] (by kernel_rfl) rfl rfl ?_ (fun hHeld => ?_)
  · exact ⟨cell_eq (blk_cell (keep_below ((Below.refl w.heap.size w).drew) H5.out) 0) rfl, cell_eq (blk_cell (keep_below ((Below.refl w.heap.size w).drew) H5.out) 1) rfl, cell_eq (blk_cell (keep_below ((Below.refl w.heap.size w).drew) H5.out) 2) rfl⟩
  have HW3 := Lib.hid ((Below.refl w.heap.size w).drew)
  generalize w.drew = w3 at hHeld HW3 ⊢
  refine pure_ (i := 0) (N := some 25) (v := ?_) (a' := ?_) #[true, false, false, false, false, false, false, false, false, false] rfl rfl (by kernel_rfl) (fun c a w h => HP.out c a _ _ w h) (Or.inl ⟨by rfl, ?_⟩) ?_ ?_
  rotate_left
  · intro w'
    go_simp
    with_reducible rfl
  rotate_left
  · simp only [Act.put, List.setIfInBounds_toArray, List.set_cons_zero, List.set_cons_succ, i64_w, i32_w]
    rfl
  refine take_ (i := 1) (N := some 26) (v := ?_) (a' := ?_) #[true, true, false, false, false, false, false, false, false, false] rfl rfl (by kernel_rfl) (fun c a w h => HP.out c a _ _ w h) (Or.inl ⟨by rfl, ?_⟩) hHeld ?_ ?_
  rotate_left
  · rintro w' ⟨s0, s1, s2⟩
    go_simp
    with_reducible rfl
  rotate_left
  · simp only [Act.put, List.setIfInBounds_toArray, List.set_cons_zero, List.set_cons_succ, i64_w, i32_w]
    rfl
  refine pure_ (i := 2) (N := some 27) (v := ?_) (a' := ?_) #[true, true, true, false, false, false, false, false, false, false] rfl rfl (by kernel_rfl) (fun c a w h => HP.out c a _ _ w h) (Or.inl ⟨by rfl, ?_⟩) ?_ ?_
  rotate_left
  · intro w'
    go_simp
    with_reducible rfl
  rotate_left
  · simp only [Act.put, List.setIfInBounds_toArray, List.set_cons_zero, List.set_cons_succ, i64_w, i32_w]
    rfl
  refine take_ (i := 3) (N := some 28) (v := ?_) (a' := ?_) #[true, true, true, true, false, false, false, false, false, false] rfl rfl (by kernel_rfl) (fun c a w h => HP.out c a _ _ w h) (Or.inl ⟨by rfl, ?_⟩) hHeld ?_ ?_
  rotate_left
  · rintro w' ⟨s0, s1, s2⟩
    go_simp
    with_reducible rfl
  rotate_left
  · simp only [Act.put, List.setIfInBounds_toArray, List.set_cons_zero, List.set_cons_succ, i64_w, i32_w]
    rfl
  refine pure_ (i := 4) (N := some 29) (v := ?_) (a' := ?_) #[true, true, true, true, true, false, false, false, false, false] rfl rfl (by kernel_rfl) (fun c a w h => HP.out c a _ _ w h) (Or.inl ⟨by rfl, ?_⟩) ?_ ?_
  rotate_left
  · intro w'
    go_simp
    with_reducible rfl
  rotate_left
  · simp only [Act.put, List.setIfInBounds_toArray, List.set_cons_zero, List.set_cons_succ, i64_w, i32_w]
    rfl
  refine take_ (i := 5) (N := some 30) (v := ?_) (a' := ?_) #[true, true, true, true, true, true, false, false, false, false] rfl rfl (by kernel_rfl) (fun c a w h => HP.out c a _ _ w h) (Or.inl ⟨by rfl, ?_⟩) hHeld ?_ ?_
  rotate_left
  · rintro w' ⟨s0, s1, s2⟩
    go_simp
    with_reducible rfl
  rotate_left
  · simp only [Act.put, List.setIfInBounds_toArray, List.set_cons_zero, List.set_cons_succ, i64_w, i32_w]
    rfl
  refine one_ (i := 6) (N := some 31) #[true, true, true, true, true, true, true, false, false, false] rfl rfl (by kernel_rfl) (by decide) (fun K hK => ?_)
  refine goes_ Try.func52 (by kernel_rfl) rfl #[.int .i64 y, .int .i64 m] (by rfl) rfl rfl (by (try simp only [List.map_toArray, List.map_cons, List.map_nil]); first | done | rfl) ?_
  refine (civil_Length.calls 5 y m L w3 HL.out).mono ?_
  rintro e w4 ⟨rfl, hdr⟩
  refine ⟨_, rfl, ?_⟩
  have HW4 := Lib.hid (HW3.out.trans ((drawn_below hdr).mono HW3.out.size))
  refine hK.out _ _ ⟨cell_eq (blk_cell (keep_below (HW4.out) H5.out) 0) rfl, cell_eq (blk_cell (keep_below (HW4.out) H5.out) 1) rfl, cell_eq (blk_cell (keep_below (HW4.out) H5.out) 2) rfl⟩ (fun hHeld => ?_)
  clear hK K hdr
  refine pure_ (i := 7) (N := some 32) (v := ?_) (a' := ?_) #[true, true, true, true, true, true, true, true, false, false] rfl rfl (by kernel_rfl) (fun c a w h => HP.out c a _ _ w h) (Or.inl ⟨by rfl, ?_⟩) ?_ ?_
  rotate_left
  · intro w'
    go_simp
    with_reducible rfl
  rotate_left
  · simp only [Act.put, List.setIfInBounds_toArray, List.set_cons_zero, List.set_cons_succ, i64_w, i32_w]
    rfl
  refine pure_ (i := 8) (N := some 33) (v := ?_) (a' := ?_) #[true, true, true, true, true, true, true, true, true, false] rfl rfl (by kernel_rfl) (fun c a w h => HP.out c a _ _ w h) (Or.inl ⟨by rfl, ?_⟩) ?_ ?_
  rotate_left
  · intro w'
    go_simp
    with_reducible rfl
  rotate_left
  · simp only [Act.put, List.setIfInBounds_toArray, List.set_cons_zero, List.set_cons_succ, i64_w, i32_w]
    rfl
  refine pure_ (i := 9) (N := some 8) (v := ?_) (a' := ?_) #[true, true, true, true, true, true, true, true, true, true] rfl rfl (by kernel_rfl) (fun c a w h => HP.out c a _ _ w h) (Or.inl ⟨by rfl, ?_⟩) ?_ ?_
  rotate_left
  · intro w'
    go_simp
    with_reducible rfl
  rotate_left
  · simp only [Act.put, List.setIfInBounds_toArray, List.set_cons_zero, List.set_cons_succ, i64_w, i32_w]
    rfl
  refine done_ (by kernel_rfl) ?_
  exact HE.out _ _ _ _ _ _ _ _ _ _ HW4
noncomputable def ri7aC : Code := (Try.f49.body.bind (regC 7)).getD .skip
set_option maxHeartbeats 4000000 in
set_option maxRecDepth 100000 in
theorem ri7a_wp {w : World} {g5 g7 : Nat} {cs : Array Value} {y m d n : Int} {A6 : Option Addr} {cap6 : Nat} {l6 : List S58} {q : Bool} {Q : Exit → Act → World → Prop} {c0 c2 c3 c4 c6 c8 c9 c10 c11 c12 c13 c14 c15 c16 c17 c18 c19 c20 c21 c22 c23 c24 c25 c26 c27 c28 c29 c30 c31 c32 c33 c34 c35 c36 c37 c38 c39 c40 c41 c42 c43 c44 c45 c46 c47 c48 c49 c50 c51 c52 c53 c54 c55 c56 c57 c58 c59 c60 c61 c62 c63 c64 : Value}
    (H5 : Hid (w.heap[g5]? = some (.cells #[.int .i64 y, .int .i64 m, .int .i64 d] 37 (0, 0)))) (H7 : Hid (w.heap[g7]? = some (.cells cs 25 (0, 0)))) (h76 : cs[6]? = some (.slice A6 l6.length cap6)) (HC : Hid (Kd.C k58 w A6 l6.length l6)) (hc6 : l6.length ≤ cap6) (hz : (l6.length : Int) = 0)
    (HP : Hid (∀ c (a : Act) (N : Option Tmp) (v : Value) (w : World), Q (.panic c) (a.put N v) w → Q (.panic c) a w)) (HE : Hid (∀ (d53 d54 d55 d56 d57 d58 d59 d60 d61 d62 d63 d64 : Value) (w' : World), Hid (Below w.heap.size w w') → Q .normal ⟨#[c0, .int .i64 n, c2, c3, c4, .pointer (some ⟨g5, 0, none⟩), .bool true, .pointer (some ⟨g7, 0, none⟩), c8, c9, c10, c11, c12, c13, c14, c15, c16, c17, c18, c19, c20, c21, c22, c23, c24, c25, c26, c27, c28, c29, c30, c31, c32, c33, c34, c35, c36, c37, c38, c39, c40, c41, c42, c43, c44, c45, c46, c47, c48, c49, c50, c51, c52, d53, d54, d55, d56, d57, d58, d59, d60, d61, d62, d63, d64], []⟩ w')) :
    Code.wp Try.prog ri7aC Q ⟨#[c0, .int .i64 n, c2, c3, c4, .pointer (some ⟨g5, 0, none⟩), c6, .pointer (some ⟨g7, 0, none⟩), c8, c9, c10, c11, c12, c13, c14, c15, c16, c17, c18, c19, c20, c21, c22, c23, c24, c25, c26, c27, c28, c29, c30, c31, c32, c33, c34, c35, c36, c37, c38, c39, c40, c41, c42, c43, c44, c45, c46, c47, c48, c49, c50, c51, c52, c53, c54, c55, c56, c57, c58, c59, c60, c61, c62, c63, c64], []⟩ w := by
  unfold ri7aC
  conv => arg 2; whnf
  refine start_ (n := 13) (S := fun w' => w'.cell? ⟨g7, 6, none⟩ = some (.slice A6 l6.length cap6) ∧ w'.cell? ⟨g5, 0, none⟩ = some (.int .i64 y) ∧ w'.cell? ⟨g5, 1, none⟩ = some (.int .i64 m) ∧ w'.cell? ⟨g5, 2, none⟩ = some (.int .i64 d)) (ds := []) #[false, false, false, false, false, false, false, false, false, false, false, false, false] (by kernel_rfl) rfl rfl ?_ (fun hHeld => ?_)
  · exact ⟨cell_eq (blk_cell (keep_below ((Below.refl w.heap.size w).drew) H7.out) 6) h76, cell_eq (blk_cell (keep_below ((Below.refl w.heap.size w).drew) H5.out) 0) rfl, cell_eq (blk_cell (keep_below ((Below.refl w.heap.size w).drew) H5.out) 1) rfl, cell_eq (blk_cell (keep_below ((Below.refl w.heap.size w).drew) H5.out) 2) rfl⟩
  have HW3 := Lib.hid ((Below.refl w.heap.size w).drew)
  generalize w.drew = w3 at hHeld HW3 ⊢
  refine pure_ (i := 0) (N := some 53) (v := ?_) (a' := ?_) #[true, false, false, false, false, false, false, false, false, false, false, false, false] rfl rfl (by kernel_rfl) (fun c a w h => HP.out c a _ _ w h) (Or.inl ⟨by rfl, ?_⟩) ?_ ?_
  rotate_left
  · intro w'
    go_simp
    with_reducible rfl
  rotate_left
  · simp only [Act.put, List.setIfInBounds_toArray, List.set_cons_zero, List.set_cons_succ, i64_w, i32_w]
    rfl
  refine take_ (i := 1) (N := some 54) (v := ?_) (a' := ?_) #[true, true, false, false, false, false, false, false, false, false, false, false, false] rfl rfl (by kernel_rfl) (fun c a w h => HP.out c a _ _ w h) (Or.inl ⟨by rfl, ?_⟩) hHeld ?_ ?_
  rotate_left
  · rintro w' ⟨s0, s1, s2, s3⟩
    go_simp
    with_reducible rfl
  rotate_left
  · simp only [Act.put, List.setIfInBounds_toArray, List.set_cons_zero, List.set_cons_succ, i64_w, i32_w]
    rfl
  refine pure_ (i := 2) (N := some 55) (v := ?_) (a' := ?_) #[true, true, true, false, false, false, false, false, false, false, false, false, false] rfl rfl (by kernel_rfl) (fun c a w h => HP.out c a _ _ w h) (Or.inl ⟨by rfl, ?_⟩) ?_ ?_
  rotate_left
  · intro w'
    go_simp
    with_reducible rfl
  rotate_left
  · simp only [Act.put, List.setIfInBounds_toArray, List.set_cons_zero, List.set_cons_succ, i64_w, i32_w]
    rfl
  refine pure_ (i := 3) (N := some 56) (v := ?_) (a' := ?_) #[true, true, true, true, false, false, false, false, false, false, false, false, false] rfl rfl (by kernel_rfl) (fun c a w h => HP.out c a _ _ w h) (Or.inl ⟨by rfl, ?_⟩) ?_ ?_
  rotate_left
  · intro w'
    go_simp
    with_reducible rfl
  rotate_left
  · simp only [Act.put, List.setIfInBounds_toArray, List.set_cons_zero, List.set_cons_succ, i64_w, i32_w]
    rfl
  refine pure_ (i := 4) (N := some 57) (v := ?_) (a' := ?_) #[true, true, true, true, true, false, false, false, false, false, false, false, false] rfl rfl (by kernel_rfl) (fun c a w h => HP.out c a _ _ w h) (Or.inl ⟨by rfl, ?_⟩) ?_ ?_
  rotate_left
  · intro w'
    go_simp
    with_reducible rfl
  rotate_left
  · simp only [Act.put, List.setIfInBounds_toArray, List.set_cons_zero, List.set_cons_succ, i64_w, i32_w]
    rfl
  refine pure_ (i := 5) (N := some 58) (v := undef) (a' := ?_) #[true, true, true, true, true, true, false, false, false, false, false, false, false] rfl rfl (by kernel_rfl) (fun c a w h => HP.out c a _ _ w h) (Or.inr ⟨by rfl, rfl⟩) ?_ ?_
  rotate_left
  · simp only [Act.put, List.setIfInBounds_toArray, List.set_cons_zero, List.set_cons_succ, i64_w, i32_w]
    rfl
  refine pure_ (i := 6) (N := some 59) (v := undef) (a' := ?_) #[true, true, true, true, true, true, true, false, false, false, false, false, false] rfl rfl (by kernel_rfl) (fun c a w h => HP.out c a _ _ w h) (Or.inr ⟨by rfl, rfl⟩) ?_ ?_
  rotate_left
  · simp only [Act.put, List.setIfInBounds_toArray, List.set_cons_zero, List.set_cons_succ, i64_w, i32_w]
    rfl
  refine pure_ (i := 7) (N := some 60) (v := undef) (a' := ?_) #[true, true, true, true, true, true, true, true, false, false, false, false, false] rfl rfl (by kernel_rfl) (fun c a w h => HP.out c a _ _ w h) (Or.inr ⟨by rfl, rfl⟩) ?_ ?_
  rotate_left
  · simp only [Act.put, List.setIfInBounds_toArray, List.set_cons_zero, List.set_cons_succ, i64_w, i32_w]
    rfl
  refine pure_ (i := 8) (N := some 61) (v := undef) (a' := ?_) #[true, true, true, true, true, true, true, true, true, false, false, false, false] rfl rfl (by kernel_rfl) (fun c a w h => HP.out c a _ _ w h) (Or.inr ⟨by rfl, rfl⟩) ?_ ?_
  rotate_left
  · simp only [Act.put, List.setIfInBounds_toArray, List.set_cons_zero, List.set_cons_succ, i64_w, i32_w]
    rfl
  refine one_ (i := 9) (N := some 62) #[true, true, true, true, true, true, true, true, true, true, false, false, false] rfl rfl (by kernel_rfl) (by decide) (fun K hK => ?_)
  refine off_ (by rfl) ?_
  refine hK.out _ _ hHeld (fun hHeld => ?_)
  clear hK K
  refine one_ (i := 10) (N := some 63) #[true, true, true, true, true, true, true, true, true, true, true, false, false] rfl rfl (by kernel_rfl) (by decide) (fun K hK => ?_)
  refine off_ (by rfl) ?_
  refine hK.out _ _ hHeld (fun hHeld => ?_)
  clear hK K
  refine pure_ (i := 11) (N := some 64) (v := ?_) (a' := ?_) #[true, true, true, true, true, true, true, true, true, true, true, true, false] rfl rfl (by kernel_rfl) (fun c a w h => HP.out c a _ _ w h) (Or.inl ⟨by rfl, ?_⟩) ?_ ?_
  rotate_left
  · intro w'
    go_simp
    with_reducible rfl
  rotate_left
  · simp only [Act.put, List.setIfInBounds_toArray, List.set_cons_zero, List.set_cons_succ, i64_w, i32_w]
    rfl
  refine pure_ (i := 12) (N := some 6) (v := ?_) (a' := ?_) #[true, true, true, true, true, true, true, true, true, true, true, true, true] rfl rfl (by kernel_rfl) (fun c a w h => HP.out c a _ _ w h) (Or.inl ⟨by rfl, ?_⟩) ?_ ?_
  rotate_left
  · intro w'
    go_simp
    with_reducible rfl
  rotate_left
  · simp only [Act.put, List.setIfInBounds_toArray, List.set_cons_zero, List.set_cons_succ, i64_w, i32_w]
    rfl
  refine done_ (by kernel_rfl) ?_
  exact HE.out _ _ _ _ _ _ _ _ _ _ _ _ _ HW3
noncomputable def ri7bC : Code := (Try.f49.body.bind (regC 7)).getD .skip
set_option maxHeartbeats 4000000 in
set_option maxRecDepth 100000 in
theorem ri7b_wp {w : World} {g5 g7 : Nat} {cs : Array Value} {y m d n : Int} {A6 : Option Addr} {cap6 : Nat} {l6 : List S58} {q : Bool} {Q : Exit → Act → World → Prop} {c0 c2 c3 c4 c6 c8 c9 c10 c11 c12 c13 c14 c15 c16 c17 c18 c19 c20 c21 c22 c23 c24 c25 c26 c27 c28 c29 c30 c31 c32 c33 c34 c35 c36 c37 c38 c39 c40 c41 c42 c43 c44 c45 c46 c47 c48 c49 c50 c51 c52 c53 c54 c55 c56 c57 c58 c59 c60 c61 c62 c63 c64 : Value}
    (H5 : Hid (w.heap[g5]? = some (.cells #[.int .i64 y, .int .i64 m, .int .i64 d] 37 (0, 0)))) (H7 : Hid (w.heap[g7]? = some (.cells cs 25 (0, 0)))) (h76 : cs[6]? = some (.slice A6 l6.length cap6)) (HC : Hid (Kd.C k58 w A6 l6.length l6)) (hc6 : l6.length ≤ cap6) (hz : ((l6.length : Int) == 0) = false) (HQ : Hid (recur_nth.f l6 y m d (wdZ n) = some q))
    (HP : Hid (∀ c (a : Act) (N : Option Tmp) (v : Value) (w : World), Q (.panic c) (a.put N v) w → Q (.panic c) a w)) (HE : Hid (∀ (d53 d54 d55 d56 d57 d58 d59 d60 d61 d62 d63 d64 : Value) (w' : World), Hid (Below w.heap.size w w') → Q .normal ⟨#[c0, .int .i64 n, c2, c3, c4, .pointer (some ⟨g5, 0, none⟩), .bool q, .pointer (some ⟨g7, 0, none⟩), c8, c9, c10, c11, c12, c13, c14, c15, c16, c17, c18, c19, c20, c21, c22, c23, c24, c25, c26, c27, c28, c29, c30, c31, c32, c33, c34, c35, c36, c37, c38, c39, c40, c41, c42, c43, c44, c45, c46, c47, c48, c49, c50, c51, c52, d53, d54, d55, d56, d57, d58, d59, d60, d61, d62, d63, d64], []⟩ w')) :
    Code.wp Try.prog ri7bC Q ⟨#[c0, .int .i64 n, c2, c3, c4, .pointer (some ⟨g5, 0, none⟩), c6, .pointer (some ⟨g7, 0, none⟩), c8, c9, c10, c11, c12, c13, c14, c15, c16, c17, c18, c19, c20, c21, c22, c23, c24, c25, c26, c27, c28, c29, c30, c31, c32, c33, c34, c35, c36, c37, c38, c39, c40, c41, c42, c43, c44, c45, c46, c47, c48, c49, c50, c51, c52, c53, c54, c55, c56, c57, c58, c59, c60, c61, c62, c63, c64], []⟩ w := by
  unfold ri7bC
  conv => arg 2; whnf
  refine start_ (n := 13) (S := fun w' => w'.cell? ⟨g7, 6, none⟩ = some (.slice A6 l6.length cap6) ∧ w'.cell? ⟨g5, 0, none⟩ = some (.int .i64 y) ∧ w'.cell? ⟨g5, 1, none⟩ = some (.int .i64 m) ∧ w'.cell? ⟨g5, 2, none⟩ = some (.int .i64 d)) (ds := []) #[false, false, false, false, false, false, false, false, false, false, false, false, false] (by kernel_rfl) rfl rfl ?_ (fun hHeld => ?_)
  · exact ⟨cell_eq (blk_cell (keep_below ((Below.refl w.heap.size w).drew) H7.out) 6) h76, cell_eq (blk_cell (keep_below ((Below.refl w.heap.size w).drew) H5.out) 0) rfl, cell_eq (blk_cell (keep_below ((Below.refl w.heap.size w).drew) H5.out) 1) rfl, cell_eq (blk_cell (keep_below ((Below.refl w.heap.size w).drew) H5.out) 2) rfl⟩
  have HW3 := Lib.hid ((Below.refl w.heap.size w).drew)
  generalize w.drew = w3 at hHeld HW3 ⊢
  refine pure_ (i := 0) (N := some 53) (v := ?_) (a' := ?_) #[true, false, false, false, false, false, false, false, false, false, false, false, false] rfl rfl (by kernel_rfl) (fun c a w h => HP.out c a _ _ w h) (Or.inl ⟨by rfl, ?_⟩) ?_ ?_
  rotate_left
  · intro w'
    go_simp
    with_reducible rfl
  rotate_left
  · simp only [Act.put, List.setIfInBounds_toArray, List.set_cons_zero, List.set_cons_succ, i64_w, i32_w]
    rfl
  refine take_ (i := 1) (N := some 54) (v := ?_) (a' := ?_) #[true, true, false, false, false, false, false, false, false, false, false, false, false] rfl rfl (by kernel_rfl) (fun c a w h => HP.out c a _ _ w h) (Or.inl ⟨by rfl, ?_⟩) hHeld ?_ ?_
  rotate_left
  · rintro w' ⟨s0, s1, s2, s3⟩
    go_simp
    with_reducible rfl
  rotate_left
  · simp only [Act.put, List.setIfInBounds_toArray, List.set_cons_zero, List.set_cons_succ, i64_w, i32_w]
    rfl
  refine pure_ (i := 2) (N := some 55) (v := ?_) (a' := ?_) #[true, true, true, false, false, false, false, false, false, false, false, false, false] rfl rfl (by kernel_rfl) (fun c a w h => HP.out c a _ _ w h) (Or.inl ⟨by rfl, ?_⟩) ?_ ?_
  rotate_left
  · intro w'
    go_simp
    with_reducible rfl
  rotate_left
  · simp only [Act.put, List.setIfInBounds_toArray, List.set_cons_zero, List.set_cons_succ, i64_w, i32_w]
    rfl
  refine pure_ (i := 3) (N := some 56) (v := ?_) (a' := ?_) #[true, true, true, true, false, false, false, false, false, false, false, false, false] rfl rfl (by kernel_rfl) (fun c a w h => HP.out c a _ _ w h) (Or.inl ⟨by rfl, ?_⟩) ?_ ?_
  rotate_left
  · intro w'
    go_simp
    with_reducible rfl
  rotate_left
  · simp only [Act.put, List.setIfInBounds_toArray, List.set_cons_zero, List.set_cons_succ, i64_w, i32_w]
    rfl
  refine pure_ (i := 4) (N := some 57) (v := ?_) (a' := ?_) #[true, true, true, true, true, false, false, false, false, false, false, false, false] rfl rfl (by kernel_rfl) (fun c a w h => HP.out c a _ _ w h) (Or.inl ⟨by rfl, ?_⟩) ?_ ?_
  rotate_left
  · intro w'
    go_simp
    with_reducible rfl
  rotate_left
  · simp only [Act.put, List.setIfInBounds_toArray, List.set_cons_zero, List.set_cons_succ, i64_w, i32_w]
    rfl
  refine pure_ (i := 5) (N := some 58) (v := ?_) (a' := ?_) #[true, true, true, true, true, true, false, false, false, false, false, false, false] rfl rfl (by kernel_rfl) (fun c a w h => HP.out c a _ _ w h) (Or.inl ⟨by rfl, ?_⟩) ?_ ?_
  rotate_left
  · intro w'
    go_simp
    with_reducible rfl
  rotate_left
  · simp only [Act.put, List.setIfInBounds_toArray, List.set_cons_zero, List.set_cons_succ, i64_w, i32_w]
    rfl
  refine take_ (i := 6) (N := some 59) (v := ?_) (a' := ?_) #[true, true, true, true, true, true, true, false, false, false, false, false, false] rfl rfl (by kernel_rfl) (fun c a w h => HP.out c a _ _ w h) (Or.inl ⟨by rfl, ?_⟩) hHeld ?_ ?_
  rotate_left
  · rintro w' ⟨s0, s1, s2, s3⟩
    go_simp
    with_reducible rfl
  rotate_left
  · simp only [Act.put, List.setIfInBounds_toArray, List.set_cons_zero, List.set_cons_succ, i64_w, i32_w]
    rfl
  refine take_ (i := 7) (N := some 60) (v := ?_) (a' := ?_) #[true, true, true, true, true, true, true, true, false, false, false, false, false] rfl rfl (by kernel_rfl) (fun c a w h => HP.out c a _ _ w h) (Or.inl ⟨by rfl, ?_⟩) hHeld ?_ ?_
  rotate_left
  · rintro w' ⟨s0, s1, s2, s3⟩
    go_simp
    with_reducible rfl
  rotate_left
  · simp only [Act.put, List.setIfInBounds_toArray, List.set_cons_zero, List.set_cons_succ, i64_w, i32_w]
    rfl
  refine pure_ (i := 8) (N := some 61) (v := ?_) (a' := ?_) #[true, true, true, true, true, true, true, true, true, false, false, false, false] rfl rfl (by kernel_rfl) (fun c a w h => HP.out c a _ _ w h) (Or.inl ⟨by rfl, ?_⟩) ?_ ?_
  rotate_left
  · intro w'
    go_simp
    with_reducible rfl
  rotate_left
  · simp only [Act.put, List.setIfInBounds_toArray, List.set_cons_zero, List.set_cons_succ, i64_w, i32_w]
    rfl
  refine one_ (i := 9) (N := some 62) #[true, true, true, true, true, true, true, true, true, true, false, false, false] rfl rfl (by kernel_rfl) (by decide) (fun K hK => ?_)
  refine goes_ Try.func46 (by kernel_rfl) rfl #[.int .i64 n] (by rfl) rfl rfl (by (try simp only [List.map_toArray, List.map_cons, List.map_nil]); first | done | rfl) ?_
  refine (civil_Weekday.calls n (wdZ n) w3 rfl).mono ?_
  rintro e w4 ⟨rfl, hdr⟩
  refine ⟨_, rfl, ?_⟩
  have HW4 := Lib.hid (HW3.out.trans ((drawn_below hdr).mono HW3.out.size))
  refine hK.out _ _ ⟨cell_eq (blk_cell (keep_below (HW4.out) H7.out) 6) h76, cell_eq (blk_cell (keep_below (HW4.out) H5.out) 0) rfl, cell_eq (blk_cell (keep_below (HW4.out) H5.out) 1) rfl, cell_eq (blk_cell (keep_below (HW4.out) H5.out) 2) rfl⟩ (fun hHeld => ?_)
  clear hK K hdr
  refine one_ (i := 10) (N := some 63) #[true, true, true, true, true, true, true, true, true, true, true, false, false] rfl rfl (by kernel_rfl) (by decide) (fun K hK => ?_)
  refine goes_ Try.func54 (by kernel_rfl) rfl #[.slice A6 l6.length cap6, .agg #[.int .i64 y, .int .i64 m, .int .i64 d], .int .i64 (wdZ n)] (by rfl) rfl rfl (by (try simp only [List.map_toArray, List.map_cons, List.map_nil]); first | done | rfl) ?_
  refine (recur_nth.calls A6 cap6 l6 y m d (wdZ n) q w4 (Kd.C_below HC.out HW4.out) hc6 HQ.out).mono ?_
  rintro e w5 ⟨rfl, hb⟩
  refine ⟨_, rfl, ?_⟩
  have HW5 := Lib.hid (HW4.out.trans (hb.mono HW4.out.size))
  refine hK.out _ _ ⟨cell_eq (blk_cell (keep_below (HW5.out) H7.out) 6) h76, cell_eq (blk_cell (keep_below (HW5.out) H5.out) 0) rfl, cell_eq (blk_cell (keep_below (HW5.out) H5.out) 1) rfl, cell_eq (blk_cell (keep_below (HW5.out) H5.out) 2) rfl⟩ (fun hHeld => ?_)
  clear hK K hb
  refine pure_ (i := 11) (N := some 64) (v := ?_) (a' := ?_) #[true, true, true, true, true, true, true, true, true, true, true, true, false] rfl rfl (by kernel_rfl) (fun c a w h => HP.out c a _ _ w h) (Or.inl ⟨by rfl, ?_⟩) ?_ ?_
  rotate_left
  · intro w'
    go_simp
    with_reducible rfl
  rotate_left
  · simp only [Act.put, List.setIfInBounds_toArray, List.set_cons_zero, List.set_cons_succ, i64_w, i32_w]
    rfl
  refine pure_ (i := 12) (N := some 6) (v := ?_) (a' := ?_) #[true, true, true, true, true, true, true, true, true, true, true, true, true] rfl rfl (by kernel_rfl) (fun c a w h => HP.out c a _ _ w h) (Or.inl ⟨by rfl, ?_⟩) ?_ ?_
  rotate_left
  · intro w'
    go_simp
    with_reducible rfl
  rotate_left
  · simp only [Act.put, List.setIfInBounds_toArray, List.set_cons_zero, List.set_cons_succ, i64_w, i32_w]
    rfl
  refine done_ (by kernel_rfl) ?_
  exact HE.out _ _ _ _ _ _ _ _ _ _ _ _ _ HW5
set_option maxHeartbeats 8000000 in
set_option maxRecDepth 100000 in
theorem right_any {g : Nat} {a0 a1 a2 a3 a8 : Int} {A4 A5 A6 A7 : Option Addr} {c4 c5 c6 c7 : Nat} {l4 l5 l7 : List Int} {l6 : List S58} {day sy sm sd mi : Int} (n y m d L : Int) (w : World) (hW : Wk w g a0 a1 a2 a3 a8 A4 A5 A6 A7 c4 c5 c6 c7 l4 l5 l7 l6 day sy sm sd mi) (hL : civil_Length.f 5 y m = some L) (hd : 1 ≤ d) (hdl : d ≤ L) (hL31 : L ≤ 31) :
    Calls Try.prog 49 #[.pointer (some ⟨g, 0, none⟩), .int .i64 n, .agg #[.int .i64 y, .int .i64 m, .int .i64 d]] w fun e w' => e = .returned (.bool (rightB l4 l5 l6 n y m d)) ∧ Below w.heap.size w w' := by
  have HW := Lib.hid hW
  have HL := Lib.hid hL
  have hlz : lenZ y m = L := by unfold lenZ; rw [hL]; rfl
  have HLZ := Lib.hid hlz
  clear hW hL hlz
  obtain ⟨rr, hrr⟩ : ∃ x, x = rightB l4 l5 l6 n y m d := ⟨_, rfl⟩
  have HRR := Lib.hid hrr
  rw [← hrr]
  clear hrr
  go_enter Try.func49, Try.ntmps49
  go_upto_region 1 with (fail)
  have H5 : Hid ((w.alloc (.cells #[.int .i64 y, .int .i64 m, .int .i64 d] 37)).heap[w.heap.size]? = some (.cells #[.int .i64 y, .int .i64 m, .int .i64 d] 37 (0, 0))) := Lib.hid (alloc_blk _ _ _)
  have HB1 : Hid (Below w.heap.size w (w.alloc (.cells #[.int .i64 y, .int .i64 m, .int .i64 d] 37))) := Lib.hid below_new_
  obtain ⟨g5, hg5⟩ : ∃ x, x = w.heap.size := ⟨_, rfl⟩
  rw [← hg5] at H5 ⊢
  clear hg5
  generalize w.alloc (.cells #[.int .i64 y, .int .i64 m, .int .i64 d] 37) = w1 at H5 HB1 ⊢
  have HW1 := Lib.hid (HW.out.below HB1.out)
  have q0 := cell_eq (blk_cell HW1.out.hg 0) rfl
  have q1 := cell_eq (blk_cell HW1.out.hg 1) rfl
  have q2 := cell_eq (blk_cell HW1.out.hg 2) rfl
  have q3 := cell_eq (blk_cell HW1.out.hg 3) rfl
  have q4 := cell_eq (blk_cell HW1.out.hg 4) rfl
  have q5 := cell_eq (blk_cell HW1.out.hg 5) rfl
  have q6 := cell_eq (blk_cell HW1.out.hg 6) rfl
  have q7 := cell_eq (blk_cell HW1.out.hg 7) rfl
  have q8 := cell_eq (blk_cell HW1.out.hg 8) rfl
  go_upto_region 2 with (fail)
  have H7 : Hid ((w1.alloc (.cells #[.int .i64 a0, .int .i64 a1, .int .i64 a2, .int .i64 a3, .slice A4 l4.length c4, .slice A5 l5.length c5, .slice A6 l6.length c6, .slice A7 l7.length c7, .int .i64 a8] 25)).heap[w1.heap.size]? = some (.cells #[.int .i64 a0, .int .i64 a1, .int .i64 a2, .int .i64 a3, .slice A4 l4.length c4, .slice A5 l5.length c5, .slice A6 l6.length c6, .slice A7 l7.length c7, .int .i64 a8] 25 (0, 0))) := Lib.hid (alloc_blk _ _ _)
  have HB2 : Hid (Below w.heap.size w (w1.alloc (.cells #[.int .i64 a0, .int .i64 a1, .int .i64 a2, .int .i64 a3, .slice A4 l4.length c4, .slice A5 l5.length c5, .slice A6 l6.length c6, .slice A7 l7.length c7, .int .i64 a8] 25))) := Lib.hid (HB1.out.alloc HB1.out.size _)
  have H52 := Lib.hid (keep_below (below_new_ (o := .cells #[.int .i64 a0, .int .i64 a1, .int .i64 a2, .int .i64 a3, .slice A4 l4.length c4, .slice A5 l5.length c5, .slice A6 l6.length c6, .slice A7 l7.length c7, .int .i64 a8] 25)) H5.out)
  obtain ⟨g7, hg7⟩ : ∃ x, x = w1.heap.size := ⟨_, rfl⟩
  rw [← hg7] at H7 ⊢
  clear hg7 q0 q1 q2 q3 q4 q5 q6 q7 q8 H5 HW1 HB1
  generalize w1.alloc (.cells #[.int .i64 a0, .int .i64 a1, .int .i64 a2, .int .i64 a3, .slice A4 l4.length c4, .slice A5 l5.length c5, .slice A6 l6.length c6, .slice A7 l7.length c7, .int .i64 a8] 25) = w2 at H7 HB2 H52 ⊢
  have HRC := Lib.hid (HW.out.rc.below HB2.out)
  have hn4 := HRC.out.n4
  have hn5 := HRC.out.n5
  have hn6 := HRC.out.n6
  clear HW
  have q4 := cell_eq (blk_cell H7.out 4) rfl
  have u1 := cell_eq (blk_cell H52.out 1) rfl
  have HH4 : Hid (Calls Try.prog 48 #[.slice A4 l4.length c4, .int .i64 m] w2 fun e w' => e = .returned (.bool (hasI l4 m)) ∧ Below w2.heap.size w2 w') := Lib.hid (has_any w2 l4 A4 c4 m HRC.out.h4 HRC.out.k4 (by omega))
  obtain ⟨t1, ht1⟩ : ∃ x, x = (decide (l4.length = 0) || hasI l4 m) := ⟨_, rfl⟩
  have HT1 := Lib.hid ht1
  clear ht1
  go_cut [24] (fun v24 wc => v24 = .bool (!t1) ∧ Hid (Below w2.heap.size w2 wc))
  case first =>
    by_cases e1 : l4.length = 0
    · have e1c : ¬ (0 : Int) < (l4.length : Int) := by omega
      go_wp2
      go_meet
      case rel => exact ⟨by rw [HT1.out, decide_eq_true e1]; rfl, Lib.hid (Below.refl _ _)⟩
    · have e1c : (0 : Int) < (l4.length : Int) := by omega
      cases e2 : hasI l4 m with
      | true =>
        rw [e2] at HH4
        have E2 := Lib.hid e2
        clear e2
        go_wp2_with (first | ((with_reducible refine HH4.out.mono ?_); rintro e w3 ⟨rfl, hb3⟩; have HB3 := Lib.hid hb3; clear hb3))
        go_meet
        case rel => exact ⟨by rw [HT1.out, E2.out, Bool.or_true]; rfl, HB3⟩
      | false =>
        rw [e2] at HH4
        have E2 := Lib.hid e2
        clear e2
        go_wp2_with (first | ((with_reducible refine HH4.out.mono ?_); rintro e w3 ⟨rfl, hb3⟩; have HB3 := Lib.hid hb3; clear hb3))
        go_meet
        case rel => exact ⟨by rw [HT1.out, E2.out, decide_eq_false e1]; rfl, HB3⟩
  case rest =>
  obtain ⟨rfl, HB3⟩ := hcut
  cases t1 with
  | false =>
    have HF : Hid (rr = false) := Lib.hid (by rw [HRR.out]; unfold rightB; rw [← HT1.out]; rfl)
    go_wp2
    go_ret
    refine ⟨?_, HB2.out.trans (HB3.out.mono HB2.out.size)⟩
    rw [HF.out]
    first | done | rfl
  | true =>
    clear q4 u1 HH4
    have H53 := Lib.hid (keep_below HB3.out H52.out)
    go_upto_region 4 with (fail)
    refine ri4_wp H53 HL hd hdl hL31 (Lib.hid fun c a N v w h => by cases N <;> exact h) (Lib.hid ?_)
    intro d25 d26 d27 d28 d29 d30 d31 d32 d33 w4 HB4
    have HB24 := Lib.hid (HB3.out.trans (HB4.out.mono HB3.out.size))
    clear HB3 HB4 H53
    have H54 := Lib.hid (keep_below HB24.out H52.out)
    have H74 := Lib.hid (keep_below HB24.out H7.out)
    have HRC4 := Lib.hid (HRC.out.below HB24.out)
    have q5 := cell_eq (blk_cell H74.out 5) rfl
    have u2 := cell_eq (blk_cell H54.out 2) rfl
    have HH5 : Hid (Calls Try.prog 48 #[.slice A5 l5.length c5, .int .i64 d] w4 fun e w' => e = .returned (.bool (hasI l5 d)) ∧ Below w4.heap.size w4 w') := Lib.hid (has_any w4 l5 A5 c5 d HRC4.out.h5 HRC4.out.k5 (by omega))
    have HH6 : Hid (∀ W, Below w4.heap.size w4 W → Calls Try.prog 48 #[.slice A5 l5.length c5, .int .i64 (d - L - 1)] W fun e w' => e = .returned (.bool (hasI l5 (d - L - 1))) ∧ Below W.heap.size W w') := Lib.hid (fun W hW => has_any W l5 A5 c5 (d - L - 1) (HRC4.out.below hW).h5 HRC4.out.k5 (by omega))
    obtain ⟨t2, ht2⟩ : ∃ x, x = (decide (l5.length = 0) || hasI l5 d || hasI l5 (d - L - 1)) := ⟨_, rfl⟩
    have HT2 := Lib.hid ht2
    clear ht2
    go_upto_region 5 with (fail)
    go_cut [52] (fun v52 wc => v52 = .bool (!t2) ∧ Hid (Below w4.heap.size w4 wc))
    case first =>
      by_cases e1 : l5.length = 0
      · have e1c : ¬ (0 : Int) < (l5.length : Int) := by omega
        go_wp2
        go_meet
        case rel => exact ⟨by rw [HT2.out, decide_eq_true e1]; rfl, Lib.hid (Below.refl _ _)⟩
      · have e1c : (0 : Int) < (l5.length : Int) := by omega
        cases e2 : hasI l5 d with
        | true =>
          rw [e2] at HH5
          have E2 := Lib.hid e2
          clear e2
          go_wp2_with (first | ((with_reducible refine HH5.out.mono ?_); rintro e w5 ⟨rfl, hb5⟩; have HB5 := Lib.hid hb5; clear hb5))
          go_meet
          case rel => exact ⟨by rw [HT2.out, E2.out, Bool.or_true, Bool.true_or]; rfl, HB5⟩
        | false =>
          rw [e2] at HH5
          have E2 := Lib.hid e2
          clear e2
          go_wp2_with (first | ((with_reducible refine HH5.out.mono ?_); rintro e w5 ⟨rfl, hb5⟩; have HB5 := Lib.hid hb5; clear hb5; have q5' := cell_eq (blk_cell (keep_below HB5.out H74.out) 5) rfl) | ((with_reducible refine (HH6.out _ HB5.out).mono ?_); rintro e w6 ⟨rfl, hb6⟩; have HB6 := Lib.hid hb6; clear hb6))
          go_meet
          case rel => exact ⟨by rw [HT2.out, E2.out, decide_eq_false e1]; rfl, Lib.hid (HB5.out.trans (HB6.out.mono HB5.out.size))⟩
    case rest =>
    obtain ⟨rfl, HB5⟩ := hcut
    cases t2 with
    | false =>
      have HF : Hid (rr = false) := Lib.hid (by rw [HRR.out]; unfold rightB; rw [HLZ.out, ← HT2.out, Bool.and_false, Bool.false_and])
      go_wp2
      go_ret
      refine ⟨?_, (HB2.out.trans (HB24.out.mono HB2.out.size)).trans (HB5.out.mono (Nat.le_trans HB2.out.size HB24.out.size))⟩
      rw [HF.out]
      first | done | rfl
    | true =>
      clear q5 u2 HH5 HH6
      have HB25 := Lib.hid (HB24.out.trans (HB5.out.mono HB24.out.size))
      clear HB24 HB5 H54 H74 HRC4
      have H55 := Lib.hid (keep_below HB25.out H52.out)
      have H75 := Lib.hid (keep_below HB25.out H7.out)
      have HRC5 := Lib.hid (HRC.out.below HB25.out)
      have HBF := Lib.hid (HB2.out.trans (HB25.out.mono HB2.out.size))
      by_cases e1 : l6.length = 0
      · have e1c : (l6.length : Int) = 0 := by omega
        have HF : Hid (rr = true) := Lib.hid (by rw [HRR.out]; unfold rightB; rw [HLZ.out, ← HT1.out, ← HT2.out, decide_eq_true e1]; rfl)
        go_upto_region 7 with (fail)
        refine ri7a_wp (q := true) H55 H75 rfl (Lib.hid HRC5.out.h6) HRC5.out.k6 e1c (Lib.hid fun c a N v w h => by cases N <;> exact h) (Lib.hid ?_)
        intro d53 d54 d55 d56 d57 d58 d59 d60 d61 d62 d63 d64 w6 HB6
        go_wp2
        go_ret
        refine ⟨?_, HBF.out.trans (HB6.out.mono HBF.out.size)⟩
        rw [HF.out]
        first | done | rfl
      · have e1c : ((l6.length : Int) == 0) = false := by rw [Bool.eq_false_iff]; intro h; have := eq_of_beq h; omega
        obtain ⟨q, hq⟩ : ∃ q, q = anyD l6 (fun x => nthOne x d L (wdZ n)) := ⟨_, rfl⟩
        have HQ : Hid (recur_nth.f l6 y m d (wdZ n) = some q) := Lib.hid (by unfold recur_nth.f; rw [HL.out]; show (if 1 ≤ d ∧ d ≤ L ∧ L ≤ 31 ∧ l6.length ≤ 10000 then some _ else none) = _; rw [if_pos ⟨hd, hdl, hL31, by omega⟩, hq])
        have HF : Hid (rr = q) := Lib.hid (by rw [HRR.out, hq]; unfold rightB; rw [HLZ.out, ← HT1.out, ← HT2.out, decide_eq_false e1]; rfl)
        clear hq
        go_upto_region 7 with (fail)
        refine ri7b_wp H55 H75 rfl (Lib.hid HRC5.out.h6) HRC5.out.k6 e1c HQ (Lib.hid fun c a N v w h => by cases N <;> exact h) (Lib.hid ?_)
        intro d53 d54 d55 d56 d57 d58 d59 d60 d61 d62 d63 d64 w6 HB6
        go_wp2
        go_ret
        refine ⟨?_, HBF.out.trans (HB6.out.mono HBF.out.size)⟩
        rw [HF.out]
        first | done | rfl
end Go.Proofs.Ytinjbpbpgogdhaa.Own
end
