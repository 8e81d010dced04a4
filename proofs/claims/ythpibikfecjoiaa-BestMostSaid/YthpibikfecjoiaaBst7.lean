import Derived.Test.YthpibikfecjoiaaBst5
namespace Go.Proofs.Ythpibikfecjoiaa.Own
open Go.RowKit Go.Proofs.YthpibikfecjoiaaW.PrintWords Go.Proofs.YthpibikfecjoiaaW.PrintLast Go.Proofs.YthpibikfecjoiaaW.PrintMore
set_option linter.unusedVariables false
set_option linter.unusedSimpArgs false
theorem row_set {rest : List Int} {n i : Nat} {v : Int} (h : rest.length = n) (hi : i < n) : ((rest.set i v).map (Value.int .i64)).toArray[i]? = some (.int .i64 v) := by
  simp [show i < rest.length from by omega]
set_option maxHeartbeats 4000000 in
set_option maxRecDepth 100000 in
theorem reg9_wp {lA aA : Option Addr} {lc ac : Nat} {l : List S33} {can : List Bool} {apart : List S39} {seats : Int} {w1 wr : World} {p C R t : Nat} {Q : Exit → Act → World → Prop} {c1 c2 c3 c4 c5 c6 c7 c8 c11 c12 c13 c14 c15 c16 c17 c18 c19 c20 c21 c22 c23 c24 c25 c26 c27 c28 c29 c30 c31 c32 c33 c34 c35 c36 c37 c38 c39 c40 c41 c42 c43 c44 c45 c46 c47 c48 c49 c50 c51 c52 c53 c54 c55 c56 c57 c58 c59 c60 c61 c62 c63 c64 c65 c66 c67 c68 c69 c70 c71 c72 c73 c74 c75 c76 c77 c78 c79 c80 c81 : Value}
    (HL : Hid (Kd.C k33 w1 lA l.length l)) (HM2 : Hid (Mem w1 wr p C R (scells lA l.length lc C seats aA apart.length ac R (.slice none 0 0) 0 (.slice none 0 0) 0 false) (canP l.length can) ((restRow l (canP l.length can) (t + 1)).set t (rF l (canP l.length can) (l.length - (t + 1)) (t + 1))) [] [] (.slice none 0 0) (.slice none 0 0))) (nR : w1.heap.size ≤ R) (ht : t < l.length) (h16 : l.length ≤ 16)
    (HP : Hid (∀ c (a : Act) (N : Option Tmp) (v : Value) (w : World), Q (.panic c) (a.put N v) w → Q (.panic c) a w)) (HE : Hid (∀ (d62 d63 d64 d65 d66 d67 d68 d69 d70 d71 d72 d73 d74 d75 : Value) (w' : World), Hid (Mem w1 w' p C R (scells lA l.length lc C seats aA apart.length ac R (.slice none 0 0) 0 (.slice none 0 0) 0 false) (canP l.length can) ((restRow l (canP l.length can) (t + 1)).set t (wrap64 (rF l (canP l.length can) (l.length - (t + 1)) (t + 1) + wt (rd_T33 l (t : Int))))) [] [] (.slice none 0 0) (.slice none 0 0)) → Q .normal ⟨#[.slice lA l.length lc, c1, c2, c3, c4, c5, c6, c7, c8, .pointer (some ⟨p, 0, none⟩), .int .i64 (t : Int), c11, c12, c13, c14, c15, c16, c17, c18, c19, c20, c21, c22, c23, c24, c25, c26, c27, c28, c29, c30, c31, c32, c33, c34, c35, c36, c37, c38, c39, c40, c41, c42, c43, c44, c45, c46, c47, c48, c49, c50, c51, c52, c53, c54, c55, c56, c57, c58, c59, c60, c61, d62, d63, d64, d65, d66, d67, d68, d69, d70, d71, d72, d73, d74, d75, c76, c77, c78, c79, c80, c81], []⟩ w')) :
    Code.wp Try.prog ch9 Q ⟨#[.slice lA l.length lc, c1, c2, c3, c4, c5, c6, c7, c8, .pointer (some ⟨p, 0, none⟩), .int .i64 (t : Int), c11, c12, c13, c14, c15, c16, c17, c18, c19, c20, c21, c22, c23, c24, c25, c26, c27, c28, c29, c30, c31, c32, c33, c34, c35, c36, c37, c38, c39, c40, c41, c42, c43, c44, c45, c46, c47, c48, c49, c50, c51, c52, c53, c54, c55, c56, c57, c58, c59, c60, c61, c62, c63, c64, c65, c66, c67, c68, c69, c70, c71, c72, c73, c74, c75, c76, c77, c78, c79, c80, c81], []⟩ wr := by
  unfold ch9
  conv => arg 2; whnf
  obtain ⟨ad, rfl, hu0, hw0⟩ := at_T33 (Kd.C_below HL.out HM2.out.hb) (t : Int) (by omega) (by omega)
  rw [Int.toNat_natCast] at hu0 hw0
  refine start_ (n := 15) (S := fun w' => w'.cell? ⟨p, 4, none⟩ = some (.slice (some ⟨R, 0, none⟩) (l.length + 1) (l.length + 1)) ∧ w'.cell? ⟨R, t, none⟩ = some (.int .i64 (rF l (canP l.length can) (l.length - (t + 1)) (t + 1))) ∧ w'.cell? (ad.add (t * 2)) = some (.int .u32 (rd_T33 l (t : Int)).f0) ∧ w'.cell? ⟨(ad.add (t * 2)).block, (ad.add (t * 2)).off + 1, none⟩ = some (.int .i64 (rd_T33 l (t : Int)).f1)) (ds := [14]) #[false, false, false, false, false, false, false, false, false, false, false, false, false, false, false] (by kernel_rfl) rfl rfl ?_ (fun hHeld => ?_)
  · exact ⟨blk_cell (show wr.drew.heap[p]? = _ from HM2.out.hp) 4, (blk_cell (show wr.drew.heap[R]? = _ from HM2.out.hR) t).trans (row_set (restRow_len _ _ _) (by omega)), hu0, hw0⟩
  clear hu0 hw0
  have HM4 := Lib.hid (HM2.out.below (Below.refl _ _).drew)
  clear HM2
  generalize wr.drew = w4 at hHeld HM4 ⊢
  have ht1 : (t : Int) < (l.length : Int) + 1 := by omega
  have ht3 : (t : Int) < (l.length : Int) := by omega
  have ht15 : t ≤ 15 := by omega
  have ht0 : (0 : Int) ≤ (t : Int) := by omega
  refine pure_ (i := 0) (N := some 62) (v := ?_) (a' := ?_) #[true, false, false, false, false, false, false, false, false, false, false, false, false, false, false] rfl rfl (by kernel_rfl) (fun c a w h => HP.out c a _ _ w h) (Or.inl ⟨by rfl, ?_⟩) ?_ ?_
  rotate_left
  · intro w'
    go_simp
    with_reducible rfl
  rotate_left
  · simp only [Act.put, List.setIfInBounds_toArray, List.set_cons_zero, List.set_cons_succ, i64_w, i32_w]
    rfl
  refine pure_ (i := 1) (N := some 63) (v := ?_) (a' := ?_) #[true, true, false, false, false, false, false, false, false, false, false, false, false, false, false] rfl rfl (by kernel_rfl) (fun c a w h => HP.out c a _ _ w h) (Or.inl ⟨by rfl, ?_⟩) ?_ ?_
  rotate_left
  · intro w'
    go_simp
    with_reducible rfl
  rotate_left
  · simp only [Act.put, List.setIfInBounds_toArray, List.set_cons_zero, List.set_cons_succ, i64_w, i32_w]
    rfl
  refine pure_ (i := 2) (N := some 64) (v := ?_) (a' := ?_) #[true, true, true, false, false, false, false, false, false, false, false, false, false, false, false] rfl rfl (by kernel_rfl) (fun c a w h => HP.out c a _ _ w h) (Or.inl ⟨by rfl, ?_⟩) ?_ ?_
  rotate_left
  · intro w'
    go_simp
    with_reducible rfl
  rotate_left
  · simp only [Act.put, List.setIfInBounds_toArray, List.set_cons_zero, List.set_cons_succ, i64_w, i32_w]
    rfl
  refine take_ (i := 3) (N := some 65) (v := ?_) (a' := ?_) #[true, true, true, true, false, false, false, false, false, false, false, false, false, false, false] rfl rfl (by kernel_rfl) (fun c a w h => HP.out c a _ _ w h) (Or.inl ⟨by rfl, ?_⟩) hHeld ?_ ?_
  rotate_left
  · rintro w' ⟨s0, s1, s2, s3⟩
    go_simp
    with_reducible rfl
  rotate_left
  · simp only [Act.put, List.setIfInBounds_toArray, List.set_cons_zero, List.set_cons_succ, i64_w, i32_w]
    rfl
  refine pure_ (i := 4) (N := some 66) (v := ?_) (a' := ?_) #[true, true, true, true, true, false, false, false, false, false, false, false, false, false, false] rfl rfl (by kernel_rfl) (fun c a w h => HP.out c a _ _ w h) (Or.inl ⟨by rfl, ?_⟩) ?_ ?_
  rotate_left
  · intro w'
    go_simp
    with_reducible rfl
  rotate_left
  · simp only [Act.put, List.setIfInBounds_toArray, List.set_cons_zero, List.set_cons_succ, i64_w, i32_w]
    rfl
  refine pure_ (i := 5) (N := some 67) (v := ?_) (a' := ?_) #[true, true, true, true, true, true, false, false, false, false, false, false, false, false, false] rfl rfl (by kernel_rfl) (fun c a w h => HP.out c a _ _ w h) (Or.inl ⟨by rfl, ?_⟩) ?_ ?_
  rotate_left
  · intro w'
    go_simp
    with_reducible rfl
  rotate_left
  · simp only [Act.put, List.setIfInBounds_toArray, List.set_cons_zero, List.set_cons_succ, i64_w, i32_w]
    rfl
  refine take_ (i := 6) (N := some 68) (v := ?_) (a' := ?_) #[true, true, true, true, true, true, true, false, false, false, false, false, false, false, false] rfl rfl (by kernel_rfl) (fun c a w h => HP.out c a _ _ w h) (Or.inl ⟨by rfl, ?_⟩) hHeld ?_ ?_
  rotate_left
  · rintro w' ⟨s0, s1, s2, s3⟩
    go_simp
    with_reducible rfl
  rotate_left
  · simp only [Act.put, List.setIfInBounds_toArray, List.set_cons_zero, List.set_cons_succ, i64_w, i32_w]
    rfl
  refine pure_ (i := 7) (N := some 69) (v := ?_) (a' := ?_) #[true, true, true, true, true, true, true, true, false, false, false, false, false, false, false] rfl rfl (by kernel_rfl) (fun c a w h => HP.out c a _ _ w h) (Or.inl ⟨by rfl, ?_⟩) ?_ ?_
  rotate_left
  · intro w'
    go_simp
    with_reducible rfl
  rotate_left
  · simp only [Act.put, List.setIfInBounds_toArray, List.set_cons_zero, List.set_cons_succ, i64_w, i32_w]
    rfl
  refine pure_ (i := 8) (N := some 70) (v := ?_) (a' := ?_) #[true, true, true, true, true, true, true, true, true, false, false, false, false, false, false] rfl rfl (by kernel_rfl) (fun c a w h => HP.out c a _ _ w h) (Or.inl ⟨by rfl, ?_⟩) ?_ ?_
  rotate_left
  · intro w'
    go_simp
    with_reducible rfl
  rotate_left
  · simp only [Act.put, List.setIfInBounds_toArray, List.set_cons_zero, List.set_cons_succ, i64_w, i32_w]
    rfl
  refine pure_ (i := 9) (N := some 71) (v := ?_) (a' := ?_) #[true, true, true, true, true, true, true, true, true, true, false, false, false, false, false] rfl rfl (by kernel_rfl) (fun c a w h => HP.out c a _ _ w h) (Or.inl ⟨by rfl, ?_⟩) ?_ ?_
  rotate_left
  · intro w'
    go_simp
    with_reducible rfl
  rotate_left
  · simp only [Act.put, List.setIfInBounds_toArray, List.set_cons_zero, List.set_cons_succ, i64_w, i32_w]
    rfl
  refine take_ (i := 10) (N := some 72) (v := ?_) (a' := ?_) #[true, true, true, true, true, true, true, true, true, true, true, false, false, false, false] rfl rfl (by kernel_rfl) (fun c a w h => HP.out c a _ _ w h) (Or.inl ⟨by rfl, ?_⟩) hHeld ?_ ?_
  rotate_left
  · rintro w' ⟨s0, s1, s2, s3⟩
    go_simp
    with_reducible rfl
  rotate_left
  · simp only [Act.put, List.setIfInBounds_toArray, List.set_cons_zero, List.set_cons_succ, i64_w, i32_w]
    rfl
  refine one_ (i := 11) (N := some 73) #[true, true, true, true, true, true, true, true, true, true, true, true, false, false, false] rfl rfl (by kernel_rfl) (by decide) (fun K hK => ?_)
  refine goes_ Try.func11 (by kernel_rfl) rfl #[.agg #[.int .u32 (rd_T33 l (t : Int)).f0, .int .i64 (rd_T33 l (t : Int)).f1]] (by rfl) rfl rfl (by (try simp only [List.map_toArray, List.map_cons, List.map_nil]); first | done | rfl) ?_
  refine (best_weight.calls _ _ (wt (rd_T33 l (t : Int))) _ rfl).mono ?_
  rintro e w5 ⟨rfl, hb5⟩
  refine ⟨_, rfl, ?_⟩
  have HM5 := Lib.hid (HM4.out.below hb5)
  have hh2 := And.intro (pw_cell_below hb5 hHeld.1) (And.intro (pw_cell_below hb5 hHeld.2.1) (And.intro (pw_cell_below hb5 hHeld.2.2.1) (pw_cell_below hb5 hHeld.2.2.2)))
  clear hb5 HM4 hHeld
  refine hK.out _ _ hh2 (fun hHeld => ?_)
  clear hK K hh2
  refine pure_ (i := 12) (N := some 74) (v := ?_) (a' := ?_) #[true, true, true, true, true, true, true, true, true, true, true, true, true, false, false] rfl rfl (by kernel_rfl) (fun c a w h => HP.out c a _ _ w h) (Or.inl ⟨by rfl, ?_⟩) ?_ ?_
  rotate_left
  · intro w'
    go_simp
    with_reducible rfl
  rotate_left
  · simp only [Act.put, List.setIfInBounds_toArray, List.set_cons_zero, List.set_cons_succ, i64_w, i32_w]
    rfl
  refine pure_ (i := 13) (N := some 75) (v := ?_) (a' := ?_) #[true, true, true, true, true, true, true, true, true, true, true, true, true, true, false] rfl rfl (by kernel_rfl) (fun c a w h => HP.out c a _ _ w h) (Or.inl ⟨by rfl, ?_⟩) ?_ ?_
  rotate_left
  · intro w'
    go_simp
    with_reducible rfl
  rotate_left
  · simp only [Act.put, List.setIfInBounds_toArray, List.set_cons_zero, List.set_cons_succ, i64_w, i32_w]
    rfl
  refine last_ (i := 14) (N := none) #[true, true, true, true, true, true, true, true, true, true, true, true, true, true, true] rfl rfl (by kernel_rfl) (by decide) (fun K hK => ?_)
  have hcp := (blk_cell HM5.out.hR t).trans (row_set (restRow_len l (canP l.length can) (t + 1)) (by omega))
  have hfp := blk_frozen HM5.out.hR t
  refine skip_ (w1 := w5.setCell ⟨R, t, none⟩ (.int .i64 (wrap64 (rF l (canP l.length can) (l.length - (t + 1)) (t + 1) + wt (rd_T33 l (t : Int)))))) (by rfl) rfl ?_ ?_
  · go_simp
  refine hK.out _ _ ?_
  clear hK K
  refine done_ (by kernel_rfl) ?_
  exact HE.out _ _ _ _ _ _ _ _ _ _ _ _ _ _ _ (Lib.hid (by have h := HM5.out.storeR nR t (wrap64 (rF l (canP l.length can) (l.length - (t + 1)) (t + 1) + wt (rd_T33 l (t : Int)))); rw [List.set_set] at h; exact h))
end Go.Proofs.Ythpibikfecjoiaa.Own
