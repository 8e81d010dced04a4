import Derived.Test.YtndelndgioojgaaDoorWa3
namespace Go.Proofs.YtndelndgioojgaaDoor.Own
open Go.RowKit Go.Proofs.YtndelndgioojgaaDoorW.PrintWords Go.Proofs.YtndelndgioojgaaDoorW.PrintLast Go.Proofs.YtndelndgioojgaaDoorW.PrintMore
set_option linter.unusedVariables false
set_option linter.unusedSimpArgs false
noncomputable def sy6 : Code := (Tryd.f42.body.bind (regC 6)).getD .skip
noncomputable def fa6 : Code := (Tryd.f47.body.bind (regC 6)).getD .skip
noncomputable def fa9 : Code := (Tryd.f47.body.bind (regC 9)).getD .skip
set_option maxHeartbeats 4000000 in
set_option maxRecDepth 100000 in
theorem sy6_wp {w0 w : World} {p S E n x a : Nat} {sure seen : List Int} {wv : Value} {off : Bool} {fuse keep : Int} {v : Value} {b : List Int} {Q : Exit → Act → World → Prop} {c1 c2 c3 c5 c6 c7 c8 c9 c10 c11 c12 c13 c14 c15 c16 c17 c18 c19 c20 c21 c22 c23 c24 c25 c26 c27 c28 c29 c30 : Value}
    (HD : Hid (Dm w0 w p S E n sure seen wv off fuse keep)) (HX : Hid (w.heap[x]? = some (.cells #[.int .i64 a, v] 81 (0, 0)))) (HV : Hid (Kd.R (Kd.int .u8) 5 w w0.heap.size (fun k => k ≠ S ∧ k ≠ E) v b)) (hab : a + b.length ≤ n) (hb0 : 0 < b.length) 
    (HP : Hid (∀ c (a : Act) (N : Option Tmp) (v : Value) (w : World), Q (.panic c) (a.put N v) w → Q (.panic c) a w)) (HE : Hid (∀ (d17 d18 d19 d20 d21 d22 d23 d24 d25 d26 : Value) (w' : World), Hid (Dm w0 w' p S E n (splice sure a b) seen wv off fuse keep) → Hid (Kept w w' (DS p S E)) → Q .normal ⟨#[.pointer (some ⟨p, 0, none⟩), c1, c2, c3, .pointer (some ⟨x, 0, none⟩), c5, c6, c7, c8, c9, c10, c11, c12, c13, c14, c15, c16, d17, d18, d19, d20, d21, d22, d23, d24, d25, d26, c27, c28, c29, c30], []⟩ w')) :
    Code.wp Tryd.prog sy6 Q ⟨#[.pointer (some ⟨p, 0, none⟩), c1, c2, c3, .pointer (some ⟨x, 0, none⟩), c5, c6, c7, c8, c9, c10, c11, c12, c13, c14, c15, c16, c17, c18, c19, c20, c21, c22, c23, c24, c25, c26, c27, c28, c29, c30], []⟩ w := by
  unfold sy6
  conv => arg 2; whnf
  obtain ⟨Av, cv, rfl, hcv, hC⟩ := Kd.R_reads HV.out
  obtain ⟨ad, rfl, hrd⟩ := (Kd.reads_of_C (d := (0 : Int)) hC).2.2 hb0
  have HRD := Lib.hid hrd
  clear hC hrd
  have hn := HD.out.hn
  have hlt : a < n := by omega
  have hne : ¬ n = a := by omega
  have ha1 : (a : Int) ≤ (n : Int) := by omega
  refine start_ (n := 10) (S := fun w' => w'.cell? ⟨p, 0, none⟩ = some (.slice (some ⟨S, 0, none⟩) n n) ∧ w'.cell? ⟨x, 0, none⟩ = some (.int .i64 a) ∧ w'.cell? ⟨x, 1, none⟩ = some (.slice (some ad) b.length cv)) (ds := [9]) #[false, false, false, false, false, false, false, false, false, false] (by kernel_rfl) rfl rfl ?_ (fun hHeld => ?_)
  · exact ⟨cell_eq (blk_cell (show w.drew.heap[p]? = _ from HD.out.hp) 0) rfl, cell_eq (blk_cell (show w.drew.heap[x]? = _ from HX.out) 0) rfl, cell_eq (blk_cell (show w.drew.heap[x]? = _ from HX.out) 1) rfl⟩
  have HD3 := Lib.hid (HD.out.below (w1 := w.drew) (Below.refl _ _).drew)
  have HK3 := Lib.hid ((Kept.refl w (DS p S E)).drew)
  have HRD3 : Hid (∀ j, j < b.length → w.drew.cell? (ad.add j) = some (.int .u8 (b.getD j 0))) := Lib.hid HRD.out
  clear HD HRD HX
  generalize w.drew = w3 at hHeld HD3 HK3 HRD3 ⊢
  refine pure_ (i := 0) (N := some 17) (v := ?_) (a' := ?_) #[true, false, false, false, false, false, false, false, false, false] rfl rfl (by kernel_rfl) (fun c a w h => HP.out c a _ _ w h) (Or.inl ⟨by rfl, ?_⟩) ?_ ?_
  rotate_left
  · intro w'
    go_simp
    with_reducible rfl
  rotate_left
  · simp only [Act.put, List.setIfInBounds_toArray, List.set_cons_zero, List.set_cons_succ, i64_w, i32_w]
    rfl
  refine pure_ (i := 1) (N := some 18) (v := ?_) (a' := ?_) #[true, true, false, false, false, false, false, false, false, false] rfl rfl (by kernel_rfl) (fun c a w h => HP.out c a _ _ w h) (Or.inl ⟨by rfl, ?_⟩) ?_ ?_
  rotate_left
  · intro w'
    go_simp
    with_reducible rfl
  rotate_left
  · simp only [Act.put, List.setIfInBounds_toArray, List.set_cons_zero, List.set_cons_succ, i64_w, i32_w]
    rfl
  refine pure_ (i := 2) (N := some 19) (v := ?_) (a' := ?_) #[true, true, true, false, false, false, false, false, false, false] rfl rfl (by kernel_rfl) (fun c a w h => HP.out c a _ _ w h) (Or.inl ⟨by rfl, ?_⟩) ?_ ?_
  rotate_left
  · intro w'
    go_simp
    with_reducible rfl
  rotate_left
  · simp only [Act.put, List.setIfInBounds_toArray, List.set_cons_zero, List.set_cons_succ, i64_w, i32_w]
    rfl
  refine take_ (i := 3) (N := some 20) (v := ?_) (a' := ?_) #[true, true, true, true, false, false, false, false, false, false] rfl rfl (by kernel_rfl) (fun c a w h => HP.out c a _ _ w h) (Or.inl ⟨by rfl, ?_⟩) hHeld ?_ ?_
  rotate_left
  · rintro w' ⟨s0, s1, s2⟩
    go_simp
    with_reducible rfl
  rotate_left
  · simp only [Act.put, List.setIfInBounds_toArray, List.set_cons_zero, List.set_cons_succ, i64_w, i32_w]
    rfl
  refine pure_ (i := 4) (N := some 21) (v := ?_) (a' := ?_) #[true, true, true, true, true, false, false, false, false, false] rfl rfl (by kernel_rfl) (fun c a w h => HP.out c a _ _ w h) (Or.inl ⟨by rfl, ?_⟩) ?_ ?_
  rotate_left
  · intro w'
    go_simp
    with_reducible rfl
  rotate_left
  · simp only [Act.put, List.setIfInBounds_toArray, List.set_cons_zero, List.set_cons_succ, i64_w, i32_w]
    rfl
  refine take_ (i := 5) (N := some 22) (v := ?_) (a' := ?_) #[true, true, true, true, true, true, false, false, false, false] rfl rfl (by kernel_rfl) (fun c a w h => HP.out c a _ _ w h) (Or.inl ⟨by rfl, ?_⟩) hHeld ?_ ?_
  rotate_left
  · rintro w' ⟨s0, s1, s2⟩
    go_simp
    with_reducible rfl
  rotate_left
  · simp only [Act.put, List.setIfInBounds_toArray, List.set_cons_zero, List.set_cons_succ, i64_w, i32_w]
    rfl
  refine pure_ (i := 6) (N := some 23) (v := ?_) (a' := ?_) #[true, true, true, true, true, true, true, false, false, false] rfl rfl (by kernel_rfl) (fun c a w h => HP.out c a _ _ w h) (Or.inl ⟨by rfl, ?_⟩) ?_ ?_
  rotate_left
  · intro w'
    go_simp
    with_reducible rfl
  rotate_left
  · simp only [Act.put, List.setIfInBounds_toArray, List.set_cons_zero, List.set_cons_succ, i64_w, i32_w]
    rfl
  refine pure_ (i := 7) (N := some 24) (v := ?_) (a' := ?_) #[true, true, true, true, true, true, true, true, false, false] rfl rfl (by kernel_rfl) (fun c a w h => HP.out c a _ _ w h) (Or.inl ⟨by rfl, ?_⟩) ?_ ?_
  rotate_left
  · intro w'
    go_simp
    with_reducible rfl
  rotate_left
  · simp only [Act.put, List.setIfInBounds_toArray, List.set_cons_zero, List.set_cons_succ, i64_w, i32_w]
    rfl
  refine take_ (i := 8) (N := some 25) (v := ?_) (a' := ?_) #[true, true, true, true, true, true, true, true, true, false] rfl rfl (by kernel_rfl) (fun c a w h => HP.out c a _ _ w h) (Or.inl ⟨by rfl, ?_⟩) hHeld ?_ ?_
  rotate_left
  · rintro w' ⟨s0, s1, s2⟩
    go_simp
    with_reducible rfl
  rotate_left
  · simp only [Act.put, List.setIfInBounds_toArray, List.set_cons_zero, List.set_cons_succ, i64_w, i32_w]
    rfl
  refine last_ (i := 9) (N := some 26) #[true, true, true, true, true, true, true, true, true, true] rfl rfl (by kernel_rfl) (by decide) (fun K hK => ?_)
  refine step_copy_own rfl (.tmp 23) (.tmp 25) 23 23 rfl 5 Tryd.underlying23 (by kernel_rfl) S a (n - a) (n - a) ad b.length cv rfl rfl _ 5 HD3.out.hS (b.map (Value.int .u8)) ?_ ?_ ?_ ?_ ?_
  · simp only [List.length_map]; exact (Nat.min_eq_left (by omega)).symm
  · intro j v hj
    obtain ⟨hj1, hj2⟩ := List.getElem?_eq_some_iff.1 hj
    simp only [List.length_map] at hj1
    rw [HRD3.out j hj1, ← hj2, List.getElem_map, List.getD_eq_getElem?_getD, List.getElem?_eq_getElem hj1]
    rfl
  · simp only [List.length_map, bytes_size, HD3.out.lS]; omega
  · intro v hv
    obtain ⟨y, _, rfl⟩ := List.mem_map.1 hv
    rfl
  rw [splice_cells]
  refine hK.out _ _ ?_
  clear hK K
  refine done_ (by kernel_rfl) ?_
  exact HE.out _ _ _ _ _ _ _ _ _ _ _ (Lib.hid (HD3.out.copyS (splice sure a b) (by rw [splice_len (by rw [HD3.out.lS]; exact hab), HD3.out.lS]))) (Lib.hid (kept_setRow HK3.out (.inr (.inl rfl)) _))
set_option maxHeartbeats 4000000 in
set_option maxRecDepth 100000 in
theorem fa6_wp {w0 w : World} {p S E n x a : Nat} {sure seen : List Int} {wv : Value} {off : Bool} {fuse keep : Int} {v : Value} {b : List Int} {k : Nat} {Q : Exit → Act → World → Prop} {c1 c2 c3 c4 c5 c8 c9 c10 c11 c12 c13 c14 c15 c16 c17 c18 c19 c20 c21 c22 c23 c24 c25 c26 c27 c28 c29 c30 c31 c32 c33 c34 c35 c36 c37 c38 c39 c40 c41 c42 c43 c44 c45 c46 c47 c48 c49 c50 c51 c52 c53 c54 c55 c56 c57 c58 c59 c60 : Value}
    (HD : Hid (Dm w0 w p S E n sure seen wv off fuse keep)) (HX : Hid (w.heap[x]? = some (.cells #[.int .i64 a, v] 81 (0, 0)))) (HV : Hid (Kd.R (Kd.int .u8) 5 w w0.heap.size (fun k => k ≠ S ∧ k ≠ E) v b)) (hab : a + b.length ≤ n) (hb0 : 0 < b.length) (hk : k ≤ b.length)
    (HP : Hid (∀ c (a : Act) (N : Option Tmp) (v : Value) (w : World), Q (.panic c) (a.put N v) w → Q (.panic c) a w)) (HE : Hid (∀ (d27 d28 d29 d30 d31 d32 d33 d34 d35 d36 d37 d38 : Value) (w' : World), Hid (Dm w0 w' p S E n (splice sure a (b.take k)) seen wv off fuse keep) → Hid (Kept w w' (DS p S E)) → Q .normal ⟨#[.pointer (some ⟨p, 0, none⟩), c1, c2, c3, c4, c5, .pointer (some ⟨x, 0, none⟩), .int .i64 (k : Int), c8, c9, c10, c11, c12, c13, c14, c15, c16, c17, c18, c19, c20, c21, c22, c23, c24, c25, c26, d27, d28, d29, d30, d31, d32, d33, d34, d35, d36, d37, d38, c39, c40, c41, c42, c43, c44, c45, c46, c47, c48, c49, c50, c51, c52, c53, c54, c55, c56, c57, c58, c59, c60], []⟩ w')) :
    Code.wp Tryd.prog fa6 Q ⟨#[.pointer (some ⟨p, 0, none⟩), c1, c2, c3, c4, c5, .pointer (some ⟨x, 0, none⟩), .int .i64 (k : Int), c8, c9, c10, c11, c12, c13, c14, c15, c16, c17, c18, c19, c20, c21, c22, c23, c24, c25, c26, c27, c28, c29, c30, c31, c32, c33, c34, c35, c36, c37, c38, c39, c40, c41, c42, c43, c44, c45, c46, c47, c48, c49, c50, c51, c52, c53, c54, c55, c56, c57, c58, c59, c60], []⟩ w := by
  unfold fa6
  conv => arg 2; whnf
  obtain ⟨Av, cv, rfl, hcv, hC⟩ := Kd.R_reads HV.out
  obtain ⟨ad, rfl, hrd⟩ := (Kd.reads_of_C (d := (0 : Int)) hC).2.2 hb0
  have HRD := Lib.hid hrd
  clear hC hrd
  have hn := HD.out.hn
  have hlt : a < n := by omega
  have hne : ¬ n = a := by omega
  have ha1 : (a : Int) ≤ (n : Int) := by omega
  have hk1 : (k : Int) ≤ (cv : Int) := by omega
  refine start_ (n := 12) (S := fun w' => w'.cell? ⟨p, 0, none⟩ = some (.slice (some ⟨S, 0, none⟩) n n) ∧ w'.cell? ⟨x, 0, none⟩ = some (.int .i64 a) ∧ w'.cell? ⟨x, 1, none⟩ = some (.slice (some ad) b.length cv)) (ds := [11]) #[false, false, false, false, false, false, false, false, false, false, false, false] (by kernel_rfl) rfl rfl ?_ (fun hHeld => ?_)
  · exact ⟨cell_eq (blk_cell (show w.drew.heap[p]? = _ from HD.out.hp) 0) rfl, cell_eq (blk_cell (show w.drew.heap[x]? = _ from HX.out) 0) rfl, cell_eq (blk_cell (show w.drew.heap[x]? = _ from HX.out) 1) rfl⟩
  have HD3 := Lib.hid (HD.out.below (w1 := w.drew) (Below.refl _ _).drew)
  have HK3 := Lib.hid ((Kept.refl w (DS p S E)).drew)
  have HRD3 : Hid (∀ j, j < b.length → w.drew.cell? (ad.add j) = some (.int .u8 (b.getD j 0))) := Lib.hid HRD.out
  clear HD HRD HX
  generalize w.drew = w3 at hHeld HD3 HK3 HRD3 ⊢
  refine pure_ (i := 0) (N := some 27) (v := ?_) (a' := ?_) #[true, false, false, false, false, false, false, false, false, false, false, false] rfl rfl (by kernel_rfl) (fun c a w h => HP.out c a _ _ w h) (Or.inl ⟨by rfl, ?_⟩) ?_ ?_
  rotate_left
  · intro w'
    go_simp
    with_reducible rfl
  rotate_left
  · simp only [Act.put, List.setIfInBounds_toArray, List.set_cons_zero, List.set_cons_succ, i64_w, i32_w]
    rfl
  refine pure_ (i := 1) (N := some 28) (v := ?_) (a' := ?_) #[true, true, false, false, false, false, false, false, false, false, false, false] rfl rfl (by kernel_rfl) (fun c a w h => HP.out c a _ _ w h) (Or.inl ⟨by rfl, ?_⟩) ?_ ?_
  rotate_left
  · intro w'
    go_simp
    with_reducible rfl
  rotate_left
  · simp only [Act.put, List.setIfInBounds_toArray, List.set_cons_zero, List.set_cons_succ, i64_w, i32_w]
    rfl
  refine pure_ (i := 2) (N := some 29) (v := ?_) (a' := ?_) #[true, true, true, false, false, false, false, false, false, false, false, false] rfl rfl (by kernel_rfl) (fun c a w h => HP.out c a _ _ w h) (Or.inl ⟨by rfl, ?_⟩) ?_ ?_
  rotate_left
  · intro w'
    go_simp
    with_reducible rfl
  rotate_left
  · simp only [Act.put, List.setIfInBounds_toArray, List.set_cons_zero, List.set_cons_succ, i64_w, i32_w]
    rfl
  refine take_ (i := 3) (N := some 30) (v := ?_) (a' := ?_) #[true, true, true, true, false, false, false, false, false, false, false, false] rfl rfl (by kernel_rfl) (fun c a w h => HP.out c a _ _ w h) (Or.inl ⟨by rfl, ?_⟩) hHeld ?_ ?_
  rotate_left
  · rintro w' ⟨s0, s1, s2⟩
    go_simp
    with_reducible rfl
  rotate_left
  · simp only [Act.put, List.setIfInBounds_toArray, List.set_cons_zero, List.set_cons_succ, i64_w, i32_w]
    rfl
  refine pure_ (i := 4) (N := some 31) (v := ?_) (a' := ?_) #[true, true, true, true, true, false, false, false, false, false, false, false] rfl rfl (by kernel_rfl) (fun c a w h => HP.out c a _ _ w h) (Or.inl ⟨by rfl, ?_⟩) ?_ ?_
  rotate_left
  · intro w'
    go_simp
    with_reducible rfl
  rotate_left
  · simp only [Act.put, List.setIfInBounds_toArray, List.set_cons_zero, List.set_cons_succ, i64_w, i32_w]
    rfl
  refine take_ (i := 5) (N := some 32) (v := ?_) (a' := ?_) #[true, true, true, true, true, true, false, false, false, false, false, false] rfl rfl (by kernel_rfl) (fun c a w h => HP.out c a _ _ w h) (Or.inl ⟨by rfl, ?_⟩) hHeld ?_ ?_
  rotate_left
  · rintro w' ⟨s0, s1, s2⟩
    go_simp
    with_reducible rfl
  rotate_left
  · simp only [Act.put, List.setIfInBounds_toArray, List.set_cons_zero, List.set_cons_succ, i64_w, i32_w]
    rfl
  refine pure_ (i := 6) (N := some 33) (v := ?_) (a' := ?_) #[true, true, true, true, true, true, true, false, false, false, false, false] rfl rfl (by kernel_rfl) (fun c a w h => HP.out c a _ _ w h) (Or.inl ⟨by rfl, ?_⟩) ?_ ?_
  rotate_left
  · intro w'
    go_simp
    with_reducible rfl
  rotate_left
  · simp only [Act.put, List.setIfInBounds_toArray, List.set_cons_zero, List.set_cons_succ, i64_w, i32_w]
    rfl
  refine pure_ (i := 7) (N := some 34) (v := ?_) (a' := ?_) #[true, true, true, true, true, true, true, true, false, false, false, false] rfl rfl (by kernel_rfl) (fun c a w h => HP.out c a _ _ w h) (Or.inl ⟨by rfl, ?_⟩) ?_ ?_
  rotate_left
  · intro w'
    go_simp
    with_reducible rfl
  rotate_left
  · simp only [Act.put, List.setIfInBounds_toArray, List.set_cons_zero, List.set_cons_succ, i64_w, i32_w]
    rfl
  refine take_ (i := 8) (N := some 35) (v := ?_) (a' := ?_) #[true, true, true, true, true, true, true, true, true, false, false, false] rfl rfl (by kernel_rfl) (fun c a w h => HP.out c a _ _ w h) (Or.inl ⟨by rfl, ?_⟩) hHeld ?_ ?_
  rotate_left
  · rintro w' ⟨s0, s1, s2⟩
    go_simp
    with_reducible rfl
  rotate_left
  · simp only [Act.put, List.setIfInBounds_toArray, List.set_cons_zero, List.set_cons_succ, i64_w, i32_w]
    rfl
  refine pure_ (i := 9) (N := some 36) (v := ?_) (a' := ?_) #[true, true, true, true, true, true, true, true, true, true, false, false] rfl rfl (by kernel_rfl) (fun c a w h => HP.out c a _ _ w h) (Or.inl ⟨by rfl, ?_⟩) ?_ ?_
  rotate_left
  · intro w'
    go_simp
    with_reducible rfl
  rotate_left
  · simp only [Act.put, List.setIfInBounds_toArray, List.set_cons_zero, List.set_cons_succ, i64_w, i32_w]
    rfl
  refine pure_ (i := 10) (N := some 37) (v := ?_) (a' := ?_) #[true, true, true, true, true, true, true, true, true, true, true, false] rfl rfl (by kernel_rfl) (fun c a w h => HP.out c a _ _ w h) (Or.inl ⟨by rfl, ?_⟩) ?_ ?_
  rotate_left
  · intro w'
    go_simp
    with_reducible rfl
  rotate_left
  · simp only [Act.put, List.setIfInBounds_toArray, List.set_cons_zero, List.set_cons_succ, i64_w, i32_w]
    rfl
  refine last_ (i := 11) (N := some 38) #[true, true, true, true, true, true, true, true, true, true, true, true] rfl rfl (by kernel_rfl) (by decide) (fun K hK => ?_)
  refine step_copy_own rfl (.tmp 33) (.tmp 37) 23 23 rfl 5 Tryd.underlying23 (by kernel_rfl) S a (n - a) (n - a) ad k cv rfl rfl _ 5 HD3.out.hS ((b.take k).map (Value.int .u8)) ?_ ?_ ?_ ?_ ?_
  · simp only [List.length_map, List.length_take]; rw [Nat.min_eq_left hk]; exact (Nat.min_eq_left (by omega)).symm
  · intro j v hj
    obtain ⟨hj1, hj2⟩ := List.getElem?_eq_some_iff.1 hj
    simp only [List.length_map, List.length_take] at hj1
    rw [HRD3.out j (by omega), ← hj2, List.getElem_map, List.getElem_take, List.getD_eq_getElem?_getD, List.getElem?_eq_getElem (show j < b.length by omega)]
    rfl
  · simp only [List.length_map, List.length_take, bytes_size, HD3.out.lS]; omega
  · intro v hv
    obtain ⟨y, _, rfl⟩ := List.mem_map.1 hv
    rfl
  rw [splice_cells]
  refine hK.out _ _ ?_
  clear hK K
  refine done_ (by kernel_rfl) ?_
  exact HE.out _ _ _ _ _ _ _ _ _ _ _ _ _ (Lib.hid (HD3.out.copyS (splice sure a (b.take k)) (by rw [splice_len (by rw [HD3.out.lS, List.length_take]; omega), HD3.out.lS]))) (Lib.hid (kept_setRow HK3.out (.inr (.inl rfl)) _))
set_option maxHeartbeats 4000000 in
set_option maxRecDepth 100000 in
theorem fa9_wp {w0 w : World} {p S E n : Nat} {sure seen : List Int} {wv : Value} {off : Bool} {fuse keep : Int} {Q : Exit → Act → World → Prop} {c1 c2 c3 c4 c5 c6 c7 c8 c9 c10 c11 c12 c13 c14 c15 c16 c17 c18 c19 c20 c21 c22 c23 c24 c25 c26 c27 c28 c29 c30 c31 c32 c33 c34 c35 c36 c37 c38 c39 c40 c41 c42 c43 c44 c45 c46 c47 c48 c49 c50 c51 c52 c53 c54 c55 c56 c57 c58 c59 c60 : Value}
    (HD : Hid (Dm w0 w p S E n sure seen wv off fuse keep))
    (HP : Hid (∀ c (a : Act) (N : Option Tmp) (v : Value) (w : World), Q (.panic c) (a.put N v) w → Q (.panic c) a w)) (HE : Hid (∀ (d43 d44 d45 d46 d47 d48 d49 d50 d51 : Value) (w' : World), Hid (Dm w0 w' p S E n sure sure wv off fuse keep) → Hid (Kept w w' (DS p S E)) → Q .normal ⟨#[.pointer (some ⟨p, 0, none⟩), c1, c2, c3, c4, c5, c6, c7, c8, c9, c10, c11, c12, c13, c14, c15, c16, c17, c18, c19, c20, c21, c22, c23, c24, c25, c26, c27, c28, c29, c30, c31, c32, c33, c34, c35, c36, c37, c38, c39, c40, c41, c42, d43, d44, d45, d46, d47, d48, d49, d50, d51, c52, c53, c54, c55, c56, c57, c58, c59, c60], []⟩ w')) :
    Code.wp Tryd.prog fa9 Q ⟨#[.pointer (some ⟨p, 0, none⟩), c1, c2, c3, c4, c5, c6, c7, c8, c9, c10, c11, c12, c13, c14, c15, c16, c17, c18, c19, c20, c21, c22, c23, c24, c25, c26, c27, c28, c29, c30, c31, c32, c33, c34, c35, c36, c37, c38, c39, c40, c41, c42, c43, c44, c45, c46, c47, c48, c49, c50, c51, c52, c53, c54, c55, c56, c57, c58, c59, c60], []⟩ w := by
  unfold fa9
  conv => arg 2; whnf
  refine start_ (n := 9) (S := fun w' => w'.cell? ⟨p, 0, none⟩ = some (.slice (some ⟨S, 0, none⟩) n n) ∧ w'.cell? ⟨p, 1, none⟩ = some (.slice (some ⟨E, 0, none⟩) n n)) (ds := [8]) #[false, false, false, false, false, false, false, false, false] (by kernel_rfl) rfl rfl ?_ (fun hHeld => ?_)
  · exact ⟨cell_eq (blk_cell (show w.drew.heap[p]? = _ from HD.out.hp) 0) rfl, cell_eq (blk_cell (show w.drew.heap[p]? = _ from HD.out.hp) 1) rfl⟩
  have HD3 := Lib.hid (HD.out.below (w1 := w.drew) (Below.refl _ _).drew)
  have HK3 := Lib.hid ((Kept.refl w (DS p S E)).drew)
  clear HD
  generalize w.drew = w3 at hHeld HD3 HK3 ⊢
  refine pure_ (i := 0) (N := some 43) (v := ?_) (a' := ?_) #[true, false, false, false, false, false, false, false, false] rfl rfl (by kernel_rfl) (fun c a w h => HP.out c a _ _ w h) (Or.inl ⟨by rfl, ?_⟩) ?_ ?_
  rotate_left
  · intro w'
    go_simp
    with_reducible rfl
  rotate_left
  · simp only [Act.put, List.setIfInBounds_toArray, List.set_cons_zero, List.set_cons_succ, i64_w, i32_w]
    rfl
  refine pure_ (i := 1) (N := some 44) (v := ?_) (a' := ?_) #[true, true, false, false, false, false, false, false, false] rfl rfl (by kernel_rfl) (fun c a w h => HP.out c a _ _ w h) (Or.inl ⟨by rfl, ?_⟩) ?_ ?_
  rotate_left
  · intro w'
    go_simp
    with_reducible rfl
  rotate_left
  · simp only [Act.put, List.setIfInBounds_toArray, List.set_cons_zero, List.set_cons_succ, i64_w, i32_w]
    rfl
  refine pure_ (i := 2) (N := some 45) (v := ?_) (a' := ?_) #[true, true, true, false, false, false, false, false, false] rfl rfl (by kernel_rfl) (fun c a w h => HP.out c a _ _ w h) (Or.inl ⟨by rfl, ?_⟩) ?_ ?_
  rotate_left
  · intro w'
    go_simp
    with_reducible rfl
  rotate_left
  · simp only [Act.put, List.setIfInBounds_toArray, List.set_cons_zero, List.set_cons_succ, i64_w, i32_w]
    rfl
  refine take_ (i := 3) (N := some 46) (v := ?_) (a' := ?_) #[true, true, true, true, false, false, false, false, false] rfl rfl (by kernel_rfl) (fun c a w h => HP.out c a _ _ w h) (Or.inl ⟨by rfl, ?_⟩) hHeld ?_ ?_
  rotate_left
  · rintro w' ⟨s0, s1⟩
    go_simp
    with_reducible rfl
  rotate_left
  · simp only [Act.put, List.setIfInBounds_toArray, List.set_cons_zero, List.set_cons_succ, i64_w, i32_w]
    rfl
  refine pure_ (i := 4) (N := some 47) (v := ?_) (a' := ?_) #[true, true, true, true, true, false, false, false, false] rfl rfl (by kernel_rfl) (fun c a w h => HP.out c a _ _ w h) (Or.inl ⟨by rfl, ?_⟩) ?_ ?_
  rotate_left
  · intro w'
    go_simp
    with_reducible rfl
  rotate_left
  · simp only [Act.put, List.setIfInBounds_toArray, List.set_cons_zero, List.set_cons_succ, i64_w, i32_w]
    rfl
  refine pure_ (i := 5) (N := some 48) (v := ?_) (a' := ?_) #[true, true, true, true, true, true, false, false, false] rfl rfl (by kernel_rfl) (fun c a w h => HP.out c a _ _ w h) (Or.inl ⟨by rfl, ?_⟩) ?_ ?_
  rotate_left
  · intro w'
    go_simp
    with_reducible rfl
  rotate_left
  · simp only [Act.put, List.setIfInBounds_toArray, List.set_cons_zero, List.set_cons_succ, i64_w, i32_w]
    rfl
  refine pure_ (i := 6) (N := some 49) (v := ?_) (a' := ?_) #[true, true, true, true, true, true, true, false, false] rfl rfl (by kernel_rfl) (fun c a w h => HP.out c a _ _ w h) (Or.inl ⟨by rfl, ?_⟩) ?_ ?_
  rotate_left
  · intro w'
    go_simp
    with_reducible rfl
  rotate_left
  · simp only [Act.put, List.setIfInBounds_toArray, List.set_cons_zero, List.set_cons_succ, i64_w, i32_w]
    rfl
  refine take_ (i := 7) (N := some 50) (v := ?_) (a' := ?_) #[true, true, true, true, true, true, true, true, false] rfl rfl (by kernel_rfl) (fun c a w h => HP.out c a _ _ w h) (Or.inl ⟨by rfl, ?_⟩) hHeld ?_ ?_
  rotate_left
  · rintro w' ⟨s0, s1⟩
    go_simp
    with_reducible rfl
  rotate_left
  · simp only [Act.put, List.setIfInBounds_toArray, List.set_cons_zero, List.set_cons_succ, i64_w, i32_w]
    rfl
  refine last_ (i := 8) (N := some 51) #[true, true, true, true, true, true, true, true, true] rfl rfl (by kernel_rfl) (by decide) (fun K hK => ?_)
  refine step_copy_own rfl (.tmp 46) (.tmp 50) 23 23 rfl 5 Tryd.underlying23 (by kernel_rfl) E 0 n n ⟨S, 0, none⟩ n n rfl rfl _ 5 HD3.out.hE (sure.map (Value.int .u8)) ?_ ?_ ?_ ?_ ?_
  · simp only [List.length_map, HD3.out.lS]; exact (Nat.min_self n).symm
  · intro j v hj
    rw [show (⟨S, 0, none⟩ : Addr).add j = ⟨S, j, none⟩ from by unfold Addr.add; split <;> simp_all, blk_cell HD3.out.hS j]
    unfold bytes
    simpa using hj
  · simp only [List.length_map, bytes_size, HD3.out.lS, HD3.out.lE]; omega
  · intro v hv
    obtain ⟨y, _, rfl⟩ := List.mem_map.1 hv
    rfl
  rw [splice_cells, show splice seen 0 sure = sure from by unfold splice; rw [List.take_zero, List.nil_append, List.drop_eq_nil_of_le (by rw [HD3.out.lS, HD3.out.lE]; omega), List.append_nil]]
  refine hK.out _ _ ?_
  clear hK K
  refine done_ (by kernel_rfl) ?_
  exact HE.out _ _ _ _ _ _ _ _ _ _ (Lib.hid (HD3.out.copyE sure HD3.out.lS)) (Lib.hid (kept_setRow HK3.out (.inr (.inr rfl)) _))
end Go.Proofs.YtndelndgioojgaaDoor.Own
