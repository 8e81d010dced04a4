-- own text: texts of this session merged by a program of it (merge.py), declarations that nothing reaches left out (prune.py)
import Derived.Test.YtinjbpbpgogdhaaHa08
section
namespace Go.Proofs.Ytinjbpbpgogdhaa.Own
open Go.RowKit Go.Proofs.YtinjbpbpgogdhaaW.PrintWords Go.Proofs.YtinjbpbpgogdhaaW.PrintLast Go.Proofs.YtinjbpbpgogdhaaW.PrintMore
set_option linter.unusedVariables false
set_option linter.unusedSimpArgs false
noncomputable def rs4C : Code := (Try.f41.body.bind (regC 4)).getD .skip
set_option maxHeartbeats 4000000 in
set_option maxRecDepth 100000 in
theorem rs4_wp {w : World} {ad : Addr} {n m j c : Nat} {x y : Int} {q : Bool} {Q : Exit → Act → World → Prop} {c2 c3 c4 c6 c7 c8 c9 c10 c11 c12 c13 c14 c15 c16 c17 c18 c19 c20 c21 c22 c23 : Value}
    (hj : j < n) (hjm : Hid (j = m + 1)) (hn : n ≤ 10000) (H0 : Hid (w.cell? (ad.add m) = some (.int .i64 y))) (H1 : Hid (w.cell? (ad.add j) = some (.int .i64 x))) (HQ : Hid (∀ W, Calls Try.prog 42 #[.int .i64 y, .int .i64 x] W fun e w' => e = .returned (.bool q) ∧ W = w'))
    (HP : Hid (∀ c (a : Act) (N : Option Tmp) (v : Value) (w : World), Q (.panic c) (a.put N v) w → Q (.panic c) a w)) (HE : Hid (∀ (d12 d13 d14 d15 d16 d17 d18 d19 d20 d21 d22 : Value) (w' : World), Hid (Below w.heap.size w w') → Q .normal ⟨#[.slice (some ad) n c, .func (.func 42) #[] #[], c2, c3, c4, .int .i64 (j : Int), c6, c7, c8, c9, c10, c11, d12, d13, d14, d15, d16, d17, d18, d19, d20, d21, d22, .bool (!q)], []⟩ w')) :
    Code.wp Try.prog rs4C Q ⟨#[.slice (some ad) n c, .func (.func 42) #[] #[], c2, c3, c4, .int .i64 (j : Int), c6, c7, c8, c9, c10, c11, c12, c13, c14, c15, c16, c17, c18, c19, c20, c21, c22, c23], []⟩ w := by
  unfold rs4C
  conv => arg 2; whnf
  have hsub : wrap64 ((j : Int) - 1) = (m : Int) := by rw [hjm.out]; rw [show ((m + 1 : Nat) : Int) - 1 = (m : Int) from by omega]; exact IntWalk.wrap64_in _ (by have := hjm.out; omega)
  have hi : IntKind.i64.wrap ((j : Int) - 1) = (m : Int) := by rw [show (j : Int) - 1 = (m : Int) from by have := hjm.out; clear hsub; omega]; exact IntWalk.i64_in _ (by have := hjm.out; clear hsub; omega)
  have hb0 : (j : Int) < (n : Int) := by clear hsub hi; omega
  have hb1 : (m : Int) < (n : Int) := by have := hjm.out; clear hsub hi; omega
  refine start_ (n := 12) (S := fun w' => w'.cell? (ad.add m) = some (.int .i64 y) ∧ w'.cell? (ad.add j) = some (.int .i64 x)) (ds := []) #[false, false, false, false, false, false, false, false, false, false, false, false] (by kernel_rfl) rfl rfl ?_ (fun hHeld => ?_)
  · exact ⟨H0.out, H1.out⟩
  have HW3 := Lib.hid ((Below.refl w.heap.size w).drew)
  generalize w.drew = w3 at hHeld HW3 ⊢
  refine pure_ (i := 0) (N := some 12) (v := ?_) (a' := ?_) #[true, false, false, false, false, false, false, false, false, false, false, false] rfl rfl (by kernel_rfl) (fun c a w h => HP.out c a _ _ w h) (Or.inl ⟨by rfl, ?_⟩) ?_ ?_
  rotate_left
  · intro w'
    go_simp
    with_reducible rfl
  rotate_left
  · simp only [Act.put, List.setIfInBounds_toArray, List.set_cons_zero, List.set_cons_succ, i64_w, i32_w]
    rfl
  refine pure_ (i := 1) (N := some 13) (v := ?_) (a' := ?_) #[true, true, false, false, false, false, false, false, false, false, false, false] rfl rfl (by kernel_rfl) (fun c a w h => HP.out c a _ _ w h) (Or.inl ⟨by rfl, ?_⟩) ?_ ?_
  rotate_left
  · intro w'
    go_simp
    with_reducible rfl
  rotate_left
  · simp only [Act.put, List.setIfInBounds_toArray, List.set_cons_zero, List.set_cons_succ, i64_w, i32_w]
    rfl
  refine pure_ (i := 2) (N := some 14) (v := ?_) (a' := ?_) #[true, true, true, false, false, false, false, false, false, false, false, false] rfl rfl (by kernel_rfl) (fun c a w h => HP.out c a _ _ w h) (Or.inl ⟨by rfl, ?_⟩) ?_ ?_
  rotate_left
  · intro w'
    go_simp
    with_reducible rfl
  rotate_left
  · simp only [Act.put, List.setIfInBounds_toArray, List.set_cons_zero, List.set_cons_succ, i64_w, i32_w]
    rfl
  refine pure_ (i := 3) (N := some 15) (v := ?_) (a' := ?_) #[true, true, true, true, false, false, false, false, false, false, false, false] rfl rfl (by kernel_rfl) (fun c a w h => HP.out c a _ _ w h) (Or.inl ⟨by rfl, ?_⟩) ?_ ?_
  rotate_left
  · intro w'
    go_simp
    with_reducible rfl
  rotate_left
  · simp only [Act.put, List.setIfInBounds_toArray, List.set_cons_zero, List.set_cons_succ, i64_w, i32_w]
    rfl
  refine pure_ (i := 4) (N := some 16) (v := ?_) (a' := ?_) #[true, true, true, true, true, false, false, false, false, false, false, false] rfl rfl (by kernel_rfl) (fun c a w h => HP.out c a _ _ w h) (Or.inl ⟨by rfl, ?_⟩) ?_ ?_
  rotate_left
  · intro w'
    go_simp
    with_reducible rfl
  rotate_left
  · simp only [Act.put, List.setIfInBounds_toArray, List.set_cons_zero, List.set_cons_succ, i64_w, i32_w]
    rfl
  refine take_ (i := 5) (N := some 17) (v := ?_) (a' := ?_) #[true, true, true, true, true, true, false, false, false, false, false, false] rfl rfl (by kernel_rfl) (fun c a w h => HP.out c a _ _ w h) (Or.inl ⟨by rfl, ?_⟩) hHeld ?_ ?_
  rotate_left
  · rintro w' ⟨s0, s1⟩
    go_simp
    with_reducible rfl
  rotate_left
  · simp only [Act.put, List.setIfInBounds_toArray, List.set_cons_zero, List.set_cons_succ, i64_w, i32_w]
    rfl
  refine pure_ (i := 6) (N := some 18) (v := ?_) (a' := ?_) #[true, true, true, true, true, true, true, false, false, false, false, false] rfl rfl (by kernel_rfl) (fun c a w h => HP.out c a _ _ w h) (Or.inl ⟨by rfl, ?_⟩) ?_ ?_
  rotate_left
  · intro w'
    go_simp
    with_reducible rfl
  rotate_left
  · simp only [Act.put, List.setIfInBounds_toArray, List.set_cons_zero, List.set_cons_succ, i64_w, i32_w]
    rfl
  refine pure_ (i := 7) (N := some 19) (v := ?_) (a' := ?_) #[true, true, true, true, true, true, true, true, false, false, false, false] rfl rfl (by kernel_rfl) (fun c a w h => HP.out c a _ _ w h) (Or.inl ⟨by rfl, ?_⟩) ?_ ?_
  rotate_left
  · intro w'
    go_simp
    with_reducible rfl
  rotate_left
  · simp only [Act.put, List.setIfInBounds_toArray, List.set_cons_zero, List.set_cons_succ, i64_w, i32_w]
    rfl
  refine pure_ (i := 8) (N := some 20) (v := ?_) (a' := ?_) #[true, true, true, true, true, true, true, true, true, false, false, false] rfl rfl (by kernel_rfl) (fun c a w h => HP.out c a _ _ w h) (Or.inl ⟨by rfl, ?_⟩) ?_ ?_
  rotate_left
  · intro w'
    go_simp
    with_reducible rfl
  rotate_left
  · simp only [Act.put, List.setIfInBounds_toArray, List.set_cons_zero, List.set_cons_succ, i64_w, i32_w]
    rfl
  refine take_ (i := 9) (N := some 21) (v := ?_) (a' := ?_) #[true, true, true, true, true, true, true, true, true, true, false, false] rfl rfl (by kernel_rfl) (fun c a w h => HP.out c a _ _ w h) (Or.inl ⟨by rfl, ?_⟩) hHeld ?_ ?_
  rotate_left
  · rintro w' ⟨s0, s1⟩
    go_simp
    with_reducible rfl
  rotate_left
  · simp only [Act.put, List.setIfInBounds_toArray, List.set_cons_zero, List.set_cons_succ, i64_w, i32_w]
    rfl
  refine one_ (i := 10) (N := some 22) #[true, true, true, true, true, true, true, true, true, true, true, false] rfl rfl (by kernel_rfl) (by decide) (fun K hK => ?_)
  refine goesF_ Try.func42 (by kernel_rfl) rfl #[.int .i64 y, .int .i64 x] (by rfl) rfl rfl rfl (by (try simp only [List.map_toArray, List.map_cons, List.map_nil]); first | done | rfl) ?_
  refine (HQ.out w3).mono ?_
  rintro e w4 ⟨rfl, rfl⟩
  refine ⟨_, rfl, ?_⟩
  refine hK.out _ _ hHeld (fun hHeld => ?_)
  clear hK K
  refine pure_ (i := 11) (N := some 23) (v := ?_) (a' := ?_) #[true, true, true, true, true, true, true, true, true, true, true, true] rfl rfl (by kernel_rfl) (fun c a w h => HP.out c a _ _ w h) (Or.inl ⟨by rfl, ?_⟩) ?_ ?_
  rotate_left
  · intro w'
    go_simp
    with_reducible rfl
  rotate_left
  · simp only [Act.put, List.setIfInBounds_toArray, List.set_cons_zero, List.set_cons_succ, i64_w, i32_w]
    rfl
  refine done_ (by kernel_rfl) ?_
  exact HE.out _ _ _ _ _ _ _ _ _ _ _ _ HW3
noncomputable def rd4C : Code := (Try.f43.body.bind (regC 4)).getD .skip
set_option maxHeartbeats 4000000 in
set_option maxRecDepth 100000 in
theorem rd4_wp {w : World} {ad : Addr} {n m j c : Nat} {x y : S58} {q : Bool} {Q : Exit → Act → World → Prop} {c2 c3 c4 c6 c7 c8 c9 c10 c11 c12 c13 c14 c15 c16 c17 c18 c19 c20 c21 c22 c23 : Value}
    (hj : j < n) (hjm : Hid (j = m + 1)) (hn : n ≤ 10000) (H0 : Hid (w.cell? (ad.add (m * 2)) = some (.int .i64 y.f0) ∧ w.cell? ⟨(ad.add (m * 2)).block, (ad.add (m * 2)).off + 1, none⟩ = some (.int .i64 y.f1))) (H1 : Hid (w.cell? (ad.add (j * 2)) = some (.int .i64 x.f0) ∧ w.cell? ⟨(ad.add (j * 2)).block, (ad.add (j * 2)).off + 1, none⟩ = some (.int .i64 x.f1))) (HQ : Hid (∀ W, Calls Try.prog 44 #[.agg #[.int .i64 y.f0, .int .i64 y.f1], .agg #[.int .i64 x.f0, .int .i64 x.f1]] W fun e w' => e = .returned (.bool q) ∧ Below W.heap.size W w'))
    (HP : Hid (∀ c (a : Act) (N : Option Tmp) (v : Value) (w : World), Q (.panic c) (a.put N v) w → Q (.panic c) a w)) (HE : Hid (∀ (d12 d13 d14 d15 d16 d17 d18 d19 d20 d21 d22 : Value) (w' : World), Hid (Below w.heap.size w w') → Q .normal ⟨#[.slice (some ad) n c, .func (.func 44) #[] #[], c2, c3, c4, .int .i64 (j : Int), c6, c7, c8, c9, c10, c11, d12, d13, d14, d15, d16, d17, d18, d19, d20, d21, d22, .bool (!q)], []⟩ w')) :
    Code.wp Try.prog rd4C Q ⟨#[.slice (some ad) n c, .func (.func 44) #[] #[], c2, c3, c4, .int .i64 (j : Int), c6, c7, c8, c9, c10, c11, c12, c13, c14, c15, c16, c17, c18, c19, c20, c21, c22, c23], []⟩ w := by
  unfold rd4C
  conv => arg 2; whnf
  have hsub : wrap64 ((j : Int) - 1) = (m : Int) := by rw [hjm.out]; rw [show ((m + 1 : Nat) : Int) - 1 = (m : Int) from by omega]; exact IntWalk.wrap64_in _ (by have := hjm.out; omega)
  have hi : IntKind.i64.wrap ((j : Int) - 1) = (m : Int) := by rw [show (j : Int) - 1 = (m : Int) from by have := hjm.out; clear hsub; omega]; exact IntWalk.i64_in _ (by have := hjm.out; clear hsub; omega)
  have hb0 : (j : Int) < (n : Int) := by clear hsub hi; omega
  have hb1 : (m : Int) < (n : Int) := by have := hjm.out; clear hsub hi; omega
  refine start_ (n := 12) (S := fun w' => w'.cell? (ad.add (m * 2)) = some (.int .i64 y.f0) ∧ w'.cell? ⟨(ad.add (m * 2)).block, (ad.add (m * 2)).off + 1, none⟩ = some (.int .i64 y.f1) ∧ w'.cell? (ad.add (j * 2)) = some (.int .i64 x.f0) ∧ w'.cell? ⟨(ad.add (j * 2)).block, (ad.add (j * 2)).off + 1, none⟩ = some (.int .i64 x.f1)) (ds := []) #[false, false, false, false, false, false, false, false, false, false, false, false] (by kernel_rfl) rfl rfl ?_ (fun hHeld => ?_)
  · exact ⟨H0.out.1, H0.out.2, H1.out.1, H1.out.2⟩
  have HW3 := Lib.hid ((Below.refl w.heap.size w).drew)
  generalize w.drew = w3 at hHeld HW3 ⊢
  refine pure_ (i := 0) (N := some 12) (v := ?_) (a' := ?_) #[true, false, false, false, false, false, false, false, false, false, false, false] rfl rfl (by kernel_rfl) (fun c a w h => HP.out c a _ _ w h) (Or.inl ⟨by rfl, ?_⟩) ?_ ?_
  rotate_left
  · intro w'
    go_simp
    with_reducible rfl
  rotate_left
  · simp only [Act.put, List.setIfInBounds_toArray, List.set_cons_zero, List.set_cons_succ, i64_w, i32_w]
    rfl
  refine pure_ (i := 1) (N := some 13) (v := ?_) (a' := ?_) #[true, true, false, false, false, false, false, false, false, false, false, false] rfl rfl (by kernel_rfl) (fun c a w h => HP.out c a _ _ w h) (Or.inl ⟨by rfl, ?_⟩) ?_ ?_
  rotate_left
  · intro w'
    go_simp
    with_reducible rfl
  rotate_left
  · simp only [Act.put, List.setIfInBounds_toArray, List.set_cons_zero, List.set_cons_succ, i64_w, i32_w]
    rfl
  refine pure_ (i := 2) (N := some 14) (v := ?_) (a' := ?_) #[true, true, true, false, false, false, false, false, false, false, false, false] rfl rfl (by kernel_rfl) (fun c a w h => HP.out c a _ _ w h) (Or.inl ⟨by rfl, ?_⟩) ?_ ?_
  rotate_left
  · intro w'
    go_simp
    with_reducible rfl
  rotate_left
  · simp only [Act.put, List.setIfInBounds_toArray, List.set_cons_zero, List.set_cons_succ, i64_w, i32_w]
    rfl
  refine pure_ (i := 3) (N := some 15) (v := ?_) (a' := ?_) #[true, true, true, true, false, false, false, false, false, false, false, false] rfl rfl (by kernel_rfl) (fun c a w h => HP.out c a _ _ w h) (Or.inl ⟨by rfl, ?_⟩) ?_ ?_
  rotate_left
  · intro w'
    go_simp
    with_reducible rfl
  rotate_left
  · simp only [Act.put, List.setIfInBounds_toArray, List.set_cons_zero, List.set_cons_succ, i64_w, i32_w]
    rfl
  refine pure_ (i := 4) (N := some 16) (v := ?_) (a' := ?_) #[true, true, true, true, true, false, false, false, false, false, false, false] rfl rfl (by kernel_rfl) (fun c a w h => HP.out c a _ _ w h) (Or.inl ⟨by rfl, ?_⟩) ?_ ?_
  rotate_left
  · intro w'
    go_simp
    with_reducible rfl
  rotate_left
  · simp only [Act.put, List.setIfInBounds_toArray, List.set_cons_zero, List.set_cons_succ, i64_w, i32_w]
    rfl
  refine take_ (i := 5) (N := some 17) (v := ?_) (a' := ?_) #[true, true, true, true, true, true, false, false, false, false, false, false] rfl rfl (by kernel_rfl) (fun c a w h => HP.out c a _ _ w h) (Or.inl ⟨by rfl, ?_⟩) hHeld ?_ ?_
  rotate_left
  · rintro w' ⟨s0, s1, s2, s3⟩
    go_simp
    with_reducible rfl
  rotate_left
  · simp only [Act.put, List.setIfInBounds_toArray, List.set_cons_zero, List.set_cons_succ, i64_w, i32_w]
    rfl
  refine pure_ (i := 6) (N := some 18) (v := ?_) (a' := ?_) #[true, true, true, true, true, true, true, false, false, false, false, false] rfl rfl (by kernel_rfl) (fun c a w h => HP.out c a _ _ w h) (Or.inl ⟨by rfl, ?_⟩) ?_ ?_
  rotate_left
  · intro w'
    go_simp
    with_reducible rfl
  rotate_left
  · simp only [Act.put, List.setIfInBounds_toArray, List.set_cons_zero, List.set_cons_succ, i64_w, i32_w]
    rfl
  refine pure_ (i := 7) (N := some 19) (v := ?_) (a' := ?_) #[true, true, true, true, true, true, true, true, false, false, false, false] rfl rfl (by kernel_rfl) (fun c a w h => HP.out c a _ _ w h) (Or.inl ⟨by rfl, ?_⟩) ?_ ?_
  rotate_left
  · intro w'
    go_simp
    with_reducible rfl
  rotate_left
  · simp only [Act.put, List.setIfInBounds_toArray, List.set_cons_zero, List.set_cons_succ, i64_w, i32_w]
    rfl
  refine pure_ (i := 8) (N := some 20) (v := ?_) (a' := ?_) #[true, true, true, true, true, true, true, true, true, false, false, false] rfl rfl (by kernel_rfl) (fun c a w h => HP.out c a _ _ w h) (Or.inl ⟨by rfl, ?_⟩) ?_ ?_
  rotate_left
  · intro w'
    go_simp
    with_reducible rfl
  rotate_left
  · simp only [Act.put, List.setIfInBounds_toArray, List.set_cons_zero, List.set_cons_succ, i64_w, i32_w]
    rfl
  refine take_ (i := 9) (N := some 21) (v := ?_) (a' := ?_) #[true, true, true, true, true, true, true, true, true, true, false, false] rfl rfl (by kernel_rfl) (fun c a w h => HP.out c a _ _ w h) (Or.inl ⟨by rfl, ?_⟩) hHeld ?_ ?_
  rotate_left
  · rintro w' ⟨s0, s1, s2, s3⟩
    go_simp
    with_reducible rfl
  rotate_left
  · simp only [Act.put, List.setIfInBounds_toArray, List.set_cons_zero, List.set_cons_succ, i64_w, i32_w]
    rfl
  refine one_ (i := 10) (N := some 22) #[true, true, true, true, true, true, true, true, true, true, true, false] rfl rfl (by kernel_rfl) (by decide) (fun K hK => ?_)
  refine goesF_ Try.func44 (by kernel_rfl) rfl #[.agg #[.int .i64 y.f0, .int .i64 y.f1], .agg #[.int .i64 x.f0, .int .i64 x.f1]] (by rfl) rfl rfl rfl (by (try simp only [List.map_toArray, List.map_cons, List.map_nil]); first | done | rfl) ?_
  refine (HQ.out w3).mono ?_
  rintro e w4 ⟨rfl, hb4⟩
  refine ⟨_, rfl, ?_⟩
  have HW4 := Lib.hid (HW3.out.trans (hb4.mono HW3.out.size))
  refine hK.out _ _ ⟨pw_cell_below hb4 hHeld.1, pw_cell_below hb4 hHeld.2.1, pw_cell_below hb4 hHeld.2.2.1, pw_cell_below hb4 hHeld.2.2.2⟩ (fun hHeld => ?_)
  clear hK K hb4
  refine pure_ (i := 11) (N := some 23) (v := ?_) (a' := ?_) #[true, true, true, true, true, true, true, true, true, true, true, true] rfl rfl (by kernel_rfl) (fun c a w h => HP.out c a _ _ w h) (Or.inl ⟨by rfl, ?_⟩) ?_ ?_
  rotate_left
  · intro w'
    go_simp
    with_reducible rfl
  rotate_left
  · simp only [Act.put, List.setIfInBounds_toArray, List.set_cons_zero, List.set_cons_succ, i64_w, i32_w]
    rfl
  refine done_ (by kernel_rfl) ?_
  exact HE.out _ _ _ _ _ _ _ _ _ _ _ _ HW4
theorem row_less (a b : Int) (w : World) : Calls Try.prog 42 #[.int .i64 a, .int .i64 b] w fun e w' => e = .returned (.bool (decide (a < b))) ∧ w = w' := by
  go_enter Try.func42, Try.ntmps42
  go_wp2
  go_ret
  exact ⟨rfl, rfl⟩
def lessD (a b : S58) : Bool := decide (a.f0 < b.f0) || (decide (a.f0 = b.f0) && decide (a.f1 < b.f1))
set_option maxHeartbeats 1000000 in
theorem day_less (a b : S58) (w : World) : Calls Try.prog 44 #[.agg #[.int .i64 a.f0, .int .i64 a.f1], .agg #[.int .i64 b.f0, .int .i64 b.f1]] w fun e w' => e = .returned (.bool (lessD a b)) ∧ Below w.heap.size w w' := by
  obtain ⟨a0, a1⟩ := a
  obtain ⟨b0, b1⟩ := b
  have hbel : Below w.heap.size w ((w.alloc (.cells #[.int .i64 a0, .int .i64 a1] 58)).alloc (.cells #[.int .i64 b0, .int .i64 b1] 58)) := ((Below.refl w.heap.size w).alloc (Nat.le_refl _) _).alloc (by rw [alloc_size]; omega) _
  unfold lessD
  simp only
  by_cases h1 : a0 < b0
  · go_enter Try.func44, Try.ntmps44
    go_wp2
    go_ret
    refine ⟨?_, hbel⟩
    simp [h1]
  · by_cases h2 : a0 = b0
    · subst h2
      go_enter Try.func44, Try.ntmps44
      go_wp2
      go_ret
      refine ⟨?_, hbel⟩
      simp
    · go_enter Try.func44, Try.ntmps44
      go_wp2
      go_ret
      refine ⟨?_, hbel⟩
      simp [h1, h2]
end Go.Proofs.Ytinjbpbpgogdhaa.Own
end
section
namespace Go.Proofs.Ytinjbpbpgogdhaa.Own
open Go.RowKit Go.Proofs.YtinjbpbpgogdhaaW.PrintWords Go.Proofs.YtinjbpbpgogdhaaW.PrintLast Go.Proofs.YtinjbpbpgogdhaaW.PrintMore
set_option linter.unusedVariables false
set_option linter.unusedSimpArgs false
/-- Each of so many stands behind the one ahead. -/
def riseP {α : Type} (lt : α → α → Bool) (f : Nat → α) (k : Nat) : Prop := ∀ i : Nat, i + 1 < k → lt (f i) (f (i + 1)) = true
instance {α : Type} (lt : α → α → Bool) (f : Nat → α) (k : Nat) : Decidable (riseP lt f k) := decidable_of_iff (∀ i, i < k - 1 → lt (f i) (f (i + 1)) = true) ⟨fun h i hi => h i (by omega), fun h i hi => h i (by omega)⟩
theorem riseP_more {α : Type} {lt : α → α → Bool} {f : Nat → α} {k : Nat} (h : riseP lt f (k + 1)) (h2 : lt (f k) (f (k + 1)) = true) : riseP lt f (k + 2) := fun i hi => by
  rcases Nat.lt_or_ge (i + 1) (k + 1) with h3 | h3
  · exact h i h3
  · obtain rfl : i = k := by omega
    exact h2
abbrev ltI (a b : Int) : Bool := decide (a < b)
def riseI (l : List Int) : Bool := decide (riseP ltI (fun i => rd l (i : Int)) l.length)
def riseD (l : List S58) : Bool := decide (riseP lessD (fun i => rd_T58 l (i : Int)) l.length)
def RiseRel (w : World) (n : Nat) (P : Nat → Prop) (i : Value) (wr : World) : Prop :=
  ∃ m : Nat, (m + 1 ≤ n ∨ m = 0) ∧ i = .int .i64 ((m + 1 : Nat) : Int) ∧ Hid (P (m + 1)) ∧ Hid (Below w.heap.size w wr)
set_option maxHeartbeats 4000000 in
set_option maxRecDepth 100000 in
theorem rises_any (w : World) (l : List Int) (A : Option Addr) (c : Nat) (hC : (Kd.int .i64).C w A l.length l) (hl : l.length ≤ 10000) :
    Calls Try.prog 41 #[.slice A l.length c, .func (.func 42) #[] #[]] w fun e w' => e = .returned (.bool (riseI l)) ∧ Below w.heap.size w w' := by
  have HC := Lib.hid hC
  clear hC
  go_enter Try.func41, Try.ntmps41
  go_wp2
  go_loopw [5] (fun i' wr => RiseRel w l.length (riseP ltI (fun i => rd l (i : Int))) i' wr) (fun i' _ => l.length - (intOf i').toNat)
  case atStart => exact ⟨0, .inr rfl, rfl, Lib.hid (fun i hi => by omega), Lib.hid (Below.refl _ _)⟩
  case round =>
  obtain ⟨m, hm, hi', HT, HB⟩ := hrel
  obtain ⟨j, hj⟩ : ∃ j, j = m + 1 := ⟨_, rfl⟩
  rw [← hj] at hm hi' HT
  subst hi'
  have HJ := Lib.hid hj
  by_cases hlt : j < l.length
  · obtain ⟨ad, rfl, hc1⟩ := Kd.at_int (Kd.C_below HC.out HB.out) (j : Int) (by omega) (by omega)
    obtain ⟨ad', he, hc0⟩ := Kd.at_int (Kd.C_below HC.out HB.out) (m : Int) (by omega) (by omega)
    obtain rfl := Option.some.inj he
    rw [Int.toNat_natCast] at hc0 hc1
    have HC0 := Lib.hid hc0
    have HC1 := Lib.hid hc1
    clear hc0 hc1 he hj
    cases hd : ltI (rd l (m : Int)) (rd l (j : Int)) with
    | true =>
      have HD := Lib.hid hd
      have HLS : Hid (∀ W, Calls Try.prog 42 #[.int .i64 (rd l (m : Int)), .int .i64 (rd l (j : Int))] W fun e w' => e = .returned (.bool true) ∧ W = w') := Lib.hid (fun W => by have h := row_less (rd l (m : Int)) (rd l (j : Int)) W; rw [show decide (rd l (m : Int) < rd l (j : Int)) = true from hd] at h; exact h)
      clear hd
      go_upto_region 4 with (fail)
      refine rs4_wp hlt HJ hl HC0 HC1 HLS (Lib.hid fun c a N v w h => by cases N <;> exact h) (Lib.hid ?_)
      intro d12 d13 d14 d15 d16 d17 d18 d19 d20 d21 d22 w2 HB2
      have HB3 := Lib.hid (HB.out.trans (HB2.out.mono HB.out.size))
      have hw : wrap64 ((j : Int) + 1) = (j : Int) + 1 := IntWalk.wrap64_in _ (by omega)
      go_wp2
      clear hw
      have h2 := HJ.out
      refine ⟨⟨m + 1, by omega, by rw [h2]; go_num, Lib.hid (riseP_more (by have h3 := HT.out; rw [h2] at h3; exact h3) (by have h3 := HD.out; rw [h2] at h3; exact h3)), HB3⟩, ?_⟩
      simp [intOf]
      omega
    | false =>
      have HD := Lib.hid hd
      have HLS : Hid (∀ W, Calls Try.prog 42 #[.int .i64 (rd l (m : Int)), .int .i64 (rd l (j : Int))] W fun e w' => e = .returned (.bool false) ∧ W = w') := Lib.hid (fun W => by have h := row_less (rd l (m : Int)) (rd l (j : Int)) W; rw [show decide (rd l (m : Int) < rd l (j : Int)) = false from hd] at h; exact h)
      clear hd
      go_upto_region 4 with (fail)
      refine rs4_wp hlt HJ hl HC0 HC1 HLS (Lib.hid fun c a N v w h => by cases N <;> exact h) (Lib.hid ?_)
      intro d12 d13 d14 d15 d16 d17 d18 d19 d20 d21 d22 w2 HB2
      go_wp2
      go_ret
      refine ⟨?_, HB.out.trans (HB2.out.mono HB.out.size)⟩
      have hf : riseI l = false := decide_eq_false (fun h => by
        have h1 := h m (by have := HJ.out; omega)
        have h2 := HD.out
        rw [HJ.out] at h2
        rw [show ltI (rd l (m : Int)) (rd l ((m + 1 : Nat) : Int)) = false from h2] at h1
        cases h1)
      rw [hf]
      first | done | rfl
  · go_wp2
    go_ret
    refine ⟨?_, HB.out⟩
    have hf : riseI l = true := decide_eq_true (fun i hi => HT.out i (by omega))
    rw [hf]
    first | done | rfl
set_option maxHeartbeats 4000000 in
set_option maxRecDepth 100000 in
theorem risesD_any (w : World) (l : List S58) (A : Option Addr) (c : Nat) (hC : Kd.C k58 w A l.length l) (hl : l.length ≤ 10000) :
    Calls Try.prog 43 #[.slice A l.length c, .func (.func 44) #[] #[]] w fun e w' => e = .returned (.bool (riseD l)) ∧ Below w.heap.size w w' := by
  have HC := Lib.hid hC
  clear hC
  go_enter Try.func43, Try.ntmps43
  go_wp2
  go_loopw [5] (fun i' wr => RiseRel w l.length (riseP lessD (fun i => rd_T58 l (i : Int))) i' wr) (fun i' _ => l.length - (intOf i').toNat)
  case atStart => exact ⟨0, .inr rfl, rfl, Lib.hid (fun i hi => by omega), Lib.hid (Below.refl _ _)⟩
  case round =>
  obtain ⟨m, hm, hi', HT, HB⟩ := hrel
  obtain ⟨j, hj⟩ : ∃ j, j = m + 1 := ⟨_, rfl⟩
  rw [← hj] at hm hi' HT
  subst hi'
  have HJ := Lib.hid hj
  by_cases hlt : j < l.length
  · obtain ⟨ad, rfl, hc1, hc1'⟩ := at_T58 (Kd.C_below HC.out HB.out) (j : Int) (by omega) (by omega)
    obtain ⟨ad', he, hc0, hc0'⟩ := at_T58 (Kd.C_below HC.out HB.out) (m : Int) (by omega) (by omega)
    obtain rfl := Option.some.inj he
    rw [Int.toNat_natCast] at hc0 hc1 hc0' hc1'
    have HC0 := Lib.hid (And.intro hc0 hc0')
    have HC1 := Lib.hid (And.intro hc1 hc1')
    clear hc0 hc1 hc0' hc1' he hj
    cases hd : lessD (rd_T58 l (m : Int)) (rd_T58 l (j : Int)) with
    | true =>
      have HD := Lib.hid hd
      have HLS : Hid (∀ W, Calls Try.prog 44 #[.agg #[.int .i64 (rd_T58 l (m : Int)).f0, .int .i64 (rd_T58 l (m : Int)).f1], .agg #[.int .i64 (rd_T58 l (j : Int)).f0, .int .i64 (rd_T58 l (j : Int)).f1]] W fun e w' => e = .returned (.bool true) ∧ Below W.heap.size W w') := Lib.hid (fun W => by have h := day_less (rd_T58 l (m : Int)) (rd_T58 l (j : Int)) W; rw [hd] at h; exact h)
      clear hd
      go_upto_region 4 with (fail)
      refine rd4_wp hlt HJ hl HC0 HC1 HLS (Lib.hid fun c a N v w h => by cases N <;> exact h) (Lib.hid ?_)
      intro d12 d13 d14 d15 d16 d17 d18 d19 d20 d21 d22 w2 HB2
      have HB3 := Lib.hid (HB.out.trans (HB2.out.mono HB.out.size))
      have hw : wrap64 ((j : Int) + 1) = (j : Int) + 1 := IntWalk.wrap64_in _ (by omega)
      go_wp2
      clear hw
      have h2 := HJ.out
      refine ⟨⟨m + 1, by omega, by rw [h2]; go_num, Lib.hid (riseP_more (by have h3 := HT.out; rw [h2] at h3; exact h3) (by have h3 := HD.out; rw [h2] at h3; exact h3)), HB3⟩, ?_⟩
      simp [intOf]
      omega
    | false =>
      have HD := Lib.hid hd
      have HLS : Hid (∀ W, Calls Try.prog 44 #[.agg #[.int .i64 (rd_T58 l (m : Int)).f0, .int .i64 (rd_T58 l (m : Int)).f1], .agg #[.int .i64 (rd_T58 l (j : Int)).f0, .int .i64 (rd_T58 l (j : Int)).f1]] W fun e w' => e = .returned (.bool false) ∧ Below W.heap.size W w') := Lib.hid (fun W => by have h := day_less (rd_T58 l (m : Int)) (rd_T58 l (j : Int)) W; rw [hd] at h; exact h)
      clear hd
      go_upto_region 4 with (fail)
      refine rd4_wp hlt HJ hl HC0 HC1 HLS (Lib.hid fun c a N v w h => by cases N <;> exact h) (Lib.hid ?_)
      intro d12 d13 d14 d15 d16 d17 d18 d19 d20 d21 d22 w2 HB2
      go_wp2
      go_ret
      refine ⟨?_, HB.out.trans (HB2.out.mono HB.out.size)⟩
      have hf : riseD l = false := decide_eq_false (fun h => by
        have h1 := h m (by have := HJ.out; omega)
        have h2 := HD.out
        rw [HJ.out] at h2
        rw [show lessD (rd_T58 l (m : Int)) (rd_T58 l ((m + 1 : Nat) : Int)) = false from h2] at h1
        cases h1)
      rw [hf]
      first | done | rfl
  · go_wp2
    go_ret
    refine ⟨?_, HB.out⟩
    have hf : riseD l = true := decide_eq_true (fun i hi => HT.out i (by omega))
    rw [hf]
    first | done | rfl
theorem all_more {P : Nat → Prop} {j : Nat} (h : ∀ i, i < j → P i) (h2 : P j) : ∀ i, i < j + 1 → P i := fun i hi => by
  rcases Nat.lt_or_ge i j with h3 | h3
  · exact h i h3
  · obtain rfl : i = j := by omega
    exact h2
/-- A whole number that a row of a rule may have. -/
def okN (n most : Int) (below : Bool) : Bool := !(decide (n = 0) || decide (n > most) || decide (n < -most) || (decide (n < 0) && !below))
def rowB (l : List Int) (most : Int) (below : Bool) : Bool := decide (∀ i : Nat, i < l.length → okN (rd l (i : Int)) most below = true) && riseI l
def RowRel (w : World) (l : List Int) (most : Int) (below : Bool) (i : Value) (wr : World) : Prop :=
  ∃ j : Nat, j ≤ l.length ∧ i = .int .i64 (j : Int) ∧ Hid (∀ i : Nat, i < j → okN (rd l (i : Int)) most below = true) ∧ Hid (Below w.heap.size w wr)
set_option maxHeartbeats 4000000 in
set_option maxRecDepth 100000 in
theorem row_any (w : World) (l : List Int) (A : Option Addr) (c : Nat) (most : Int) (below : Bool) (hC : (Kd.int .i64).C w A l.length l) (hl : l.length ≤ 10000) (h0 : 0 ≤ most) (h1 : most ≤ 1000) :
    Calls Try.prog 34 #[.slice A l.length c, .int .i64 most, .bool below] w fun e w' => e = .returned (.bool (rowB l most below)) ∧ Below w.heap.size w w' := by
  have HC := Lib.hid hC
  clear hC
  go_enter Try.func34, Try.ntmps34
  go_wp2
  go_loopw [11] (fun i' wr => RowRel w l most below i' wr) (fun i' _ => l.length - (intOf i').toNat)
  case atStart => exact ⟨0, Nat.zero_le _, rfl, Lib.hid (fun i hi => by omega), Lib.hid (Below.refl _ _)⟩
  case round =>
  obtain ⟨j, hj, rfl, HT, HB⟩ := hrel
  by_cases hlt : j < l.length
  · obtain ⟨ad, rfl, hc1⟩ := Kd.at_int (Kd.C_below HC.out HB.out) (j : Int) (by omega) (by omega)
    rw [Int.toNat_natCast] at hc1
    obtain ⟨x, hx⟩ : ∃ x, x = rd l (j : Int) := ⟨_, rfl⟩
    rw [← hx] at hc1
    have HX := Lib.hid hx
    clear hx
    have hn1 : wrap64 (-most) = -most := IntWalk.wrap64_in _ (by omega)
    have hn2 : IntKind.i64.wrap (-most) = -most := IntWalk.i64_in _ (by clear hn1; omega)
    have bad : okN x most below = false → rowB l most below = false := fun h => by
      have h2 : ¬ (∀ i : Nat, i < l.length → okN (rd l (i : Int)) most below = true) := fun hh => by
        have h3 := hh j hlt
        rw [← HX.out, h] at h3
        cases h3
      unfold rowB
      rw [decide_eq_false h2, Bool.false_and]
    have HBAD := Lib.hid bad
    clear bad
    by_cases e0 : x = 0
    · have hb := HBAD.out (by unfold okN; simp [e0])
      have HF := Lib.hid hb
      clear hb
      go_wp2
      go_ret
      refine ⟨?_, HB.out⟩
      rw [HF.out]
      first | done | rfl
    · by_cases e1 : x > most
      · have hb := HBAD.out (by unfold okN; simp [e1])
        have HF := Lib.hid hb
        clear hb
        go_wp2
        go_ret
        refine ⟨?_, HB.out⟩
        rw [HF.out]
        first | done | rfl
      · by_cases e2 : x < -most
        · have hb := HBAD.out (by unfold okN; simp [e2])
          have HF := Lib.hid hb
          clear hb
          go_wp2
          go_ret
          refine ⟨?_, HB.out⟩
          rw [HF.out]
          first | done | rfl
        · by_cases e3 : x < 0
          · cases below with
            | false =>
              have hb := HBAD.out (by unfold okN; simp [e3])
              have HF := Lib.hid hb
              clear hb
              go_wp2
              go_ret
              refine ⟨?_, HB.out⟩
              rw [HF.out]
              first | done | rfl
            | true =>
              have HK : Hid (okN x most true = true) := Lib.hid (by unfold okN; simp [e0]; omega)
              go_wp2
              go_roundw
              case rel => exact ⟨j + 1, by omega, by go_num, Lib.hid (all_more HT.out (by rw [← HX.out]; exact HK.out)), HB⟩
              case measure => simp [intOf]; omega
          · have HK : Hid (okN x most below = true) := Lib.hid (by unfold okN; simp [e0, e3]; omega)
            go_wp2
            go_roundw
            case rel => exact ⟨j + 1, by omega, by go_num, Lib.hid (all_more HT.out (by rw [← HX.out]; exact HK.out)), HB⟩
            case measure => simp [intOf]; omega
  · have HRS : Hid (Calls Try.prog 41 #[.slice A l.length c, .func (.func 42) #[] #[]] wr fun e w' => e = .returned (.bool (riseI l)) ∧ Below wr.heap.size wr w') := Lib.hid (rises_any wr l A c (Kd.C_below HC.out HB.out) hl)
    go_wp2_with (first | ((with_reducible refine HRS.out.mono ?_); rintro e w2 ⟨rfl, hb2⟩; have HB2 := Lib.hid hb2; clear hb2))
    go_ret
    refine ⟨?_, HB.out.trans (HB2.out.mono HB.out.size)⟩
    unfold rowB
    rw [decide_eq_true (fun i hi => HT.out i (by omega)), Bool.true_and]
    first | done | rfl
/-- A day that a rule may have. -/
def okD (d : S58) (nth : Bool) : Bool := !(decide (d.f1 < 0) || decide (d.f1 > 6) || decide (d.f0 < -5) || decide (d.f0 > 5) || (!decide (d.f0 = 0) && !nth))
def nthB (freq : Int) (months : List Int) : Bool := decide (freq = 3) || (decide (freq = 4) && decide (0 < months.length))
def daysB (freq : Int) (months : List Int) (l : List S58) : Bool := decide (∀ i : Nat, i < l.length → okD (rd_T58 l (i : Int)) (nthB freq months) = true) && riseD l
def DayRel (w1 : World) (l : List S58) (nth : Bool) (i : Value) (wr : World) : Prop :=
  ∃ j : Nat, j ≤ l.length ∧ i = .int .i64 (j : Int) ∧ Hid (∀ i : Nat, i < j → okD (rd_T58 l (i : Int)) nth = true) ∧ Hid (Below w1.heap.size w1 wr)
set_option maxHeartbeats 4000000 in
set_option maxRecDepth 100000 in
theorem daysMay_any (a0 a1 a2 a3 a8 : Int) (A4 A5 A6 A7 : Option Addr) (c4 c5 c6 c7 : Nat) (l4 l5 l7 : List Int) (l6 : List S58) (w : World) (h4 : (Kd.int .i64).C w A4 l4.length l4) (h6 : Kd.C k58 w A6 l6.length l6) (hl : l6.length ≤ 10000) (hl4 : l4.length ≤ 10000) :
    Calls Try.prog 35 #[.agg #[.int .i64 a0, .int .i64 a1, .int .i64 a2, .int .i64 a3, .slice A4 l4.length c4, .slice A5 l5.length c5, .slice A6 l6.length c6, .slice A7 l7.length c7, .int .i64 a8]] w fun e w' => e = .returned (.bool (daysB a0 l4 l6)) ∧ Below w.heap.size w w' := by
  have HC := Lib.hid h6
  clear h4 h6
  go_enter Try.func35, Try.ntmps35
  go_upto_region 1 with (fail)
  have H1 : Hid ((w.alloc (.cells #[.int .i64 a0, .int .i64 a1, .int .i64 a2, .int .i64 a3, .slice A4 l4.length c4, .slice A5 l5.length c5, .slice A6 l6.length c6, .slice A7 l7.length c7, .int .i64 a8] 25)).heap[w.heap.size]? = some (.cells #[.int .i64 a0, .int .i64 a1, .int .i64 a2, .int .i64 a3, .slice A4 l4.length c4, .slice A5 l5.length c5, .slice A6 l6.length c6, .slice A7 l7.length c7, .int .i64 a8] 25 (0, 0))) := Lib.hid (alloc_blk _ _ _)
  have HB1 : Hid (Below w.heap.size w (w.alloc (.cells #[.int .i64 a0, .int .i64 a1, .int .i64 a2, .int .i64 a3, .slice A4 l4.length c4, .slice A5 l5.length c5, .slice A6 l6.length c6, .slice A7 l7.length c7, .int .i64 a8] 25))) := Lib.hid below_new_
  obtain ⟨g1, hg1⟩ : ∃ x, x = w.heap.size := ⟨_, rfl⟩
  rw [← hg1] at H1 ⊢
  clear hg1
  generalize w.alloc (.cells #[.int .i64 a0, .int .i64 a1, .int .i64 a2, .int .i64 a3, .slice A4 l4.length c4, .slice A5 l5.length c5, .slice A6 l6.length c6, .slice A7 l7.length c7, .int .i64 a8] 25) = w1 at H1 HB1 ⊢
  have q0 := cell_eq (blk_cell H1.out 0) rfl
  have q4 := cell_eq (blk_cell H1.out 4) rfl
  have q6 := cell_eq (blk_cell H1.out 6) rfl
  obtain ⟨nt, hnt⟩ : ∃ x, x = nthB a0 l4 := ⟨_, rfl⟩
  have HNT := Lib.hid hnt
  go_cut [3] (fun v3 wc => v3 = .bool nt ∧ wc = w1)
  case first =>
    by_cases e3 : a0 = 3
    · go_wp2
      go_meet
      case rel => exact ⟨by rw [HNT.out]; unfold nthB; simp [e3], rfl⟩
    · by_cases e4 : a0 = 4
      · go_wp2
        go_meet
        case rel => exact ⟨by rw [HNT.out]; unfold nthB; simp [e4], rfl⟩
      · have t3 : (a0 == 3) = false := by simp [e3]
        have t4 : (a0 == 4) = false := by simp [e4]
        go_wp2
        go_meet
        case rel => exact ⟨by rw [HNT.out]; unfold nthB; simp [e3, e4], rfl⟩
  case rest =>
  obtain ⟨rfl, rfl⟩ := hcut
  clear hnt q0 q4
  go_wp2
  go_loopw [23] (fun i' wr => DayRel wc l6 nt i' wr) (fun i' _ => l6.length - (intOf i').toNat)
  case atStart => exact ⟨0, Nat.zero_le _, rfl, Lib.hid (fun i hi => by omega), Lib.hid (Below.refl _ _)⟩
  case round =>
  clear q6
  obtain ⟨j, hj, rfl, HT, HB⟩ := hrel
  have HBW := Lib.hid (HB1.out.trans (HB.out.mono HB1.out.size))
  by_cases hlt : j < l6.length
  · obtain ⟨ad, rfl, hc1, hc2⟩ := at_T58 (Kd.C_below HC.out HBW.out) (j : Int) (by omega) (by omega)
    rw [Int.toNat_natCast] at hc1 hc2
    obtain ⟨x, hx⟩ : ∃ x, x = rd_T58 l6 (j : Int) := ⟨_, rfl⟩
    rw [← hx] at hc1 hc2
    have HX := Lib.hid hx
    clear hx
    obtain ⟨xn, xd⟩ := x
    simp only at hc1 hc2
    have bad : okD ⟨xn, xd⟩ nt = false → daysB a0 l4 l6 = false := fun h => by
      have h2 : ¬ (∀ i : Nat, i < l6.length → okD (rd_T58 l6 (i : Int)) (nthB a0 l4) = true) := fun hh => by
        have h3 := hh j hlt
        rw [← HX.out, ← HNT.out, h] at h3
        cases h3
      unfold daysB
      rw [decide_eq_false h2, Bool.false_and]
    have HBAD := Lib.hid bad
    clear bad
    have hbn : Below w.heap.size w (wr.alloc (.cells #[.int .i64 xn, .int .i64 xd] 58)) := HBW.out.alloc HBW.out.size _
    have HBN := Lib.hid hbn
    have HBM : Hid (Below wc.heap.size wc (wr.alloc (.cells #[.int .i64 xn, .int .i64 xd] 58))) := Lib.hid (HB.out.alloc HB.out.size _)
    clear hbn
    have leaf : okD ⟨xn, xd⟩ nt = false → Hid (daysB a0 l4 l6 = false) := fun h => Lib.hid (HBAD.out h)
    by_cases e0 : xd < 0
    · have HF := leaf (by unfold okD; simp [e0])
      clear leaf
      go_wp2
      go_ret
      refine ⟨?_, HBN.out⟩
      rw [HF.out]
      first | done | rfl
    · by_cases e1 : xd > 6
      · have HF := leaf (by unfold okD; simp [e1])
        clear leaf
        go_wp2
        go_ret
        refine ⟨?_, HBN.out⟩
        rw [HF.out]
        first | done | rfl
      · by_cases e2 : xn < -5
        · have HF := leaf (by unfold okD; simp [e2])
          clear leaf
          go_wp2
          go_ret
          refine ⟨?_, HBN.out⟩
          rw [HF.out]
          first | done | rfl
        · by_cases e3 : xn > 5
          · have HF := leaf (by unfold okD; simp [e3])
            clear leaf
            go_wp2
            go_ret
            refine ⟨?_, HBN.out⟩
            rw [HF.out]
            first | done | rfl
          · by_cases e4 : xn = 0
            · have HK : Hid (okD ⟨xn, xd⟩ nt = true) := Lib.hid (by unfold okD; simp [e4]; omega)
              clear leaf
              subst e4
              go_wp2
              go_roundw
              case rel => exact ⟨j + 1, by omega, by go_num, Lib.hid (all_more HT.out (by rw [← HX.out]; exact HK.out)), HBM⟩
              case measure => simp [intOf]; omega
            · cases nt with
              | true =>
                have HK : Hid (okD ⟨xn, xd⟩ true = true) := Lib.hid (by unfold okD; simp; omega)
                clear leaf
                go_wp2
                go_roundw
                case rel => exact ⟨j + 1, by omega, by go_num, Lib.hid (all_more HT.out (by rw [← HX.out]; exact HK.out)), HBM⟩
                case measure => simp [intOf]; omega
              | false =>
                have HF := leaf (by unfold okD; simp [e4])
                clear leaf
                go_wp2
                go_ret
                refine ⟨?_, HBN.out⟩
                rw [HF.out]
                first | done | rfl
  · have q6 := cell_eq (blk_cell (keep_below HB.out H1.out) 6) rfl
    have HRS : Hid (Calls Try.prog 43 #[.slice A6 l6.length c6, .func (.func 44) #[] #[]] wr fun e w' => e = .returned (.bool (riseD l6)) ∧ Below wr.heap.size wr w') := Lib.hid (risesD_any wr l6 A6 c6 (Kd.C_below HC.out HBW.out) hl)
    go_wp2_with (first | ((with_reducible refine HRS.out.mono ?_); rintro e w2 ⟨rfl, hb2⟩; have HB2 := Lib.hid hb2; clear hb2))
    go_ret
    refine ⟨?_, HBW.out.trans (HB2.out.mono HBW.out.size)⟩
    unfold daysB
    rw [decide_eq_true (p := ∀ i : Nat, i < l6.length → okD (rd_T58 l6 (i : Int)) (nthB a0 l4) = true) (fun i hi => by rw [← HNT.out]; exact HT.out i (by omega)), Bool.true_and]
    first | done | rfl
end Go.Proofs.Ytinjbpbpgogdhaa.Own
end
