import Derived.Test.YtndelndgioojgaaDoorWq2
namespace Go.Proofs.YtndelndgioojgaaDoor.Own
open Go.RowKit Go.Proofs.YtndelndgioojgaaDoorW.PrintWords Go.Proofs.YtndelndgioojgaaDoorW.PrintLast Go.Proofs.YtndelndgioojgaaDoorW.PrintMore
set_option linter.unusedVariables false
set_option linter.unusedSimpArgs false
noncomputable def sa2aC : Code := (Tryd.f14.body.bind (regC 2)).getD .skip
set_option maxHeartbeats 4000000 in
set_option maxRecDepth 100000 in
theorem sa2a_wp {w0 w : World} {L p S E gs : Nat} {cs : Array Value} {half frm end_ gen g : Int} {sv rv : Value} {snap : List Int} {recs : List (List Int)} {down : Bool} {s : ByteArray} {A vA : Option Addr} {rc vc : Nat} {rs : List ByteArray} {Q : Exit → Act → World → Prop} {c0 c3 c4 c6 c7 c8 c9 c10 c11 c12 c13 c14 c15 c16 c17 c18 c19 c20 c21 c22 c23 c24 c25 c26 c27 c28 c29 c30 c31 c32 c33 c34 c35 c36 c37 c38 c39 c40 c41 c42 c43 c44 c45 c46 : Value}
    (HL : Hid (Lm w0 w L p S E half frm end_ gen sv rv snap recs down)) (hsl : snap.length ≤ 4194304) (HS : Hid (w.heap[gs]? = some (.cells cs 39 (0, 0)))) (hc0 : cs[0]? = some (.int .u32 g)) (hc1 : cs[1]? = some (.string s)) (hc2 : cs[2]? = some (.slice A rs.length rc)) (hg : (gen != g) = true)
    (HP : Hid (∀ c (a : Act) (N : Option Tmp) (v : Value) (w : World), Q (.panic c) (a.put N v) w → Q (.panic c) a w)) (HE : Hid (∀ (d9 d10 d11 d12 d13 d14 d15 d16 d17 d18 d19 d20 d21 d22 d23 d24 d25 d26 d27 d28 : Value) (w' : World), Hid (Below w.heap.size w w') → Q .normal ⟨#[c0, .pointer (some ⟨L, 0, none⟩), .pointer (some ⟨gs, 0, none⟩), c3, c4, .slice vA recs.length vc, c6, c7, c8, d9, d10, d11, d12, d13, d14, d15, d16, d17, d18, d19, d20, d21, d22, d23, d24, d25, d26, d27, d28, .bool true, c30, c31, c32, c33, c34, c35, c36, c37, c38, c39, c40, c41, c42, c43, c44, c45, c46], []⟩ w')) :
    Code.wp Tryd.prog sa2aC Q ⟨#[c0, .pointer (some ⟨L, 0, none⟩), .pointer (some ⟨gs, 0, none⟩), c3, c4, .slice vA recs.length vc, c6, c7, c8, c9, c10, c11, c12, c13, c14, c15, c16, c17, c18, c19, c20, c21, c22, c23, c24, c25, c26, c27, c28, c29, c30, c31, c32, c33, c34, c35, c36, c37, c38, c39, c40, c41, c42, c43, c44, c45, c46], []⟩ w := by
  unfold sa2aC
  conv => arg 2; whnf
  refine start_ (n := 21) (S := fun w' => w'.cell? ⟨gs, 0, none⟩ = some (.int .u32 g) ∧ w'.cell? ⟨gs, 1, none⟩ = some (.string s) ∧ w'.cell? ⟨gs, 2, none⟩ = some (.slice A rs.length rc)) (ds := []) #[false, false, false, false, false, false, false, false, false, false, false, false, false, false, false, false, false, false, false, false, false] (by kernel_rfl) rfl rfl ?_ (fun hHeld => ?_)
  · exact ⟨cell_eq (blk_cell (show w.drew.heap[gs]? = _ from HS.out) 0) hc0, cell_eq (blk_cell (show w.drew.heap[gs]? = _ from HS.out) 1) hc1, cell_eq (blk_cell (show w.drew.heap[gs]? = _ from HS.out) 2) hc2⟩
  have HW3 := Lib.hid ((Below.refl w.heap.size w).drew)
  generalize w.drew = w3 at hHeld HW3 ⊢
  refine pure_ (i := 0) (N := some 9) (v := ?_) (a' := ?_) #[true, false, false, false, false, false, false, false, false, false, false, false, false, false, false, false, false, false, false, false, false] rfl rfl (by kernel_rfl) (fun c a w h => HP.out c a _ _ w h) (Or.inl ⟨by rfl, ?_⟩) ?_ ?_
  rotate_left
  · intro w'
    go_simp
    with_reducible rfl
  rotate_left
  · simp only [Act.put, List.setIfInBounds_toArray, List.set_cons_zero, List.set_cons_succ, i64_w, i32_w]
    rfl
  refine pure_ (i := 2) (N := some 11) (v := ?_) (a' := ?_) #[true, false, true, false, false, false, false, false, false, false, false, false, false, false, false, false, false, false, false, false, false] rfl rfl (by kernel_rfl) (fun c a w h => HP.out c a _ _ w h) (Or.inl ⟨by rfl, ?_⟩) ?_ ?_
  rotate_left
  · intro w'
    go_simp
    with_reducible rfl
  rotate_left
  · simp only [Act.put, List.setIfInBounds_toArray, List.set_cons_zero, List.set_cons_succ, i64_w, i32_w]
    rfl
  refine take_ (i := 3) (N := some 12) (v := ?_) (a' := ?_) #[true, false, true, true, false, false, false, false, false, false, false, false, false, false, false, false, false, false, false, false, false] rfl rfl (by kernel_rfl) (fun c a w h => HP.out c a _ _ w h) (Or.inl ⟨by rfl, ?_⟩) hHeld ?_ ?_
  rotate_left
  · rintro w' ⟨s0, s1, s2⟩
    go_simp
    with_reducible rfl
  rotate_left
  · simp only [Act.put, List.setIfInBounds_toArray, List.set_cons_zero, List.set_cons_succ, i64_w, i32_w]
    rfl
  refine one_ (i := 1) (N := some 10) #[true, true, true, true, false, false, false, false, false, false, false, false, false, false, false, false, false, false, false, false, false] rfl rfl (by kernel_rfl) (by decide) (fun K hK => ?_)
  refine goes_ Tryd.func12 (by kernel_rfl) rfl #[.pointer (some ⟨L, 0, none⟩)] (by rfl) rfl rfl (by (try simp only [List.map_toArray, List.map_cons, List.map_nil]); first | done | rfl) ?_
  refine (gen_any (cell_eq (blk_cell (HL.out.below HW3.out).hL 4) rfl)).mono ?_
  rintro e w4 ⟨rfl, rfl⟩
  refine ⟨_, rfl, ?_⟩
  refine hK.out _ _ hHeld (fun hHeld => ?_)
  clear hK K
  refine pure_ (i := 4) (N := some 13) (v := ?_) (a' := ?_) #[true, true, true, true, true, false, false, false, false, false, false, false, false, false, false, false, false, false, false, false, false] rfl rfl (by kernel_rfl) (fun c a w h => HP.out c a _ _ w h) (Or.inl ⟨by rfl, ?_⟩) ?_ ?_
  rotate_left
  · intro w'
    go_simp
    with_reducible rfl
  rotate_left
  · simp only [Act.put, List.setIfInBounds_toArray, List.set_cons_zero, List.set_cons_succ, i64_w, i32_w]
    rfl
  refine pure_ (i := 5) (N := some 14) (v := ?_) (a' := ?_) #[true, true, true, true, true, true, false, false, false, false, false, false, false, false, false, false, false, false, false, false, false] rfl rfl (by kernel_rfl) (fun c a w h => HP.out c a _ _ w h) (Or.inl ⟨by rfl, ?_⟩) ?_ ?_
  rotate_left
  · intro w'
    go_simp
    with_reducible rfl
  rotate_left
  · simp only [Act.put, List.setIfInBounds_toArray, List.set_cons_zero, List.set_cons_succ, i64_w, i32_w]
    rfl
  refine pure_ (i := 6) (N := some 15) (v := undef) (a' := ?_) #[true, true, true, true, true, true, true, false, false, false, false, false, false, false, false, false, false, false, false, false, false] rfl rfl (by kernel_rfl) (fun c a w h => HP.out c a _ _ w h) (Or.inr ⟨by rfl, rfl⟩) ?_ ?_
  rotate_left
  · simp only [Act.put, List.setIfInBounds_toArray, List.set_cons_zero, List.set_cons_succ, i64_w, i32_w]
    rfl
  refine pure_ (i := 9) (N := some 18) (v := undef) (a' := ?_) #[true, true, true, true, true, true, true, false, false, true, false, false, false, false, false, false, false, false, false, false, false] rfl rfl (by kernel_rfl) (fun c a w h => HP.out c a _ _ w h) (Or.inr ⟨by rfl, rfl⟩) ?_ ?_
  rotate_left
  · simp only [Act.put, List.setIfInBounds_toArray, List.set_cons_zero, List.set_cons_succ, i64_w, i32_w]
    rfl
  refine pure_ (i := 10) (N := some 19) (v := undef) (a' := ?_) #[true, true, true, true, true, true, true, false, false, true, true, false, false, false, false, false, false, false, false, false, false] rfl rfl (by kernel_rfl) (fun c a w h => HP.out c a _ _ w h) (Or.inr ⟨by rfl, rfl⟩) ?_ ?_
  rotate_left
  · simp only [Act.put, List.setIfInBounds_toArray, List.set_cons_zero, List.set_cons_succ, i64_w, i32_w]
    rfl
  refine one_ (i := 7) (N := some 16) #[true, true, true, true, true, true, true, true, false, true, true, false, false, false, false, false, false, false, false, false, false] rfl rfl (by kernel_rfl) (by decide) (fun K hK => ?_)
  refine off_ (by rfl) ?_
  refine hK.out _ _ hHeld (fun hHeld => ?_)
  clear hK K
  refine one_ (i := 8) (N := some 17) #[true, true, true, true, true, true, true, true, true, true, true, false, false, false, false, false, false, false, false, false, false] rfl rfl (by kernel_rfl) (by decide) (fun K hK => ?_)
  refine off_ (by rfl) ?_
  refine hK.out _ _ hHeld (fun hHeld => ?_)
  clear hK K
  refine pure_ (i := 11) (N := some 20) (v := undef) (a' := ?_) #[true, true, true, true, true, true, true, true, true, true, true, true, false, false, false, false, false, false, false, false, false] rfl rfl (by kernel_rfl) (fun c a w h => HP.out c a _ _ w h) (Or.inr ⟨by rfl, rfl⟩) ?_ ?_
  rotate_left
  · simp only [Act.put, List.setIfInBounds_toArray, List.set_cons_zero, List.set_cons_succ, i64_w, i32_w]
    rfl
  refine pure_ (i := 12) (N := some 21) (v := ?_) (a' := ?_) #[true, true, true, true, true, true, true, true, true, true, true, true, true, false, false, false, false, false, false, false, false] rfl rfl (by kernel_rfl) (fun c a w h => HP.out c a _ _ w h) (Or.inl ⟨by rfl, ?_⟩) ?_ ?_
  rotate_left
  · intro w'
    go_simp
    with_reducible rfl
  rotate_left
  · simp only [Act.put, List.setIfInBounds_toArray, List.set_cons_zero, List.set_cons_succ, i64_w, i32_w]
    rfl
  refine pure_ (i := 13) (N := some 22) (v := ?_) (a' := ?_) #[true, true, true, true, true, true, true, true, true, true, true, true, true, true, false, false, false, false, false, false, false] rfl rfl (by kernel_rfl) (fun c a w h => HP.out c a _ _ w h) (Or.inl ⟨by rfl, ?_⟩) ?_ ?_
  rotate_left
  · intro w'
    go_simp
    with_reducible rfl
  rotate_left
  · simp only [Act.put, List.setIfInBounds_toArray, List.set_cons_zero, List.set_cons_succ, i64_w, i32_w]
    rfl
  refine pure_ (i := 14) (N := some 23) (v := undef) (a' := ?_) #[true, true, true, true, true, true, true, true, true, true, true, true, true, true, true, false, false, false, false, false, false] rfl rfl (by kernel_rfl) (fun c a w h => HP.out c a _ _ w h) (Or.inr ⟨by rfl, rfl⟩) ?_ ?_
  rotate_left
  · simp only [Act.put, List.setIfInBounds_toArray, List.set_cons_zero, List.set_cons_succ, i64_w, i32_w]
    rfl
  refine pure_ (i := 15) (N := some 24) (v := undef) (a' := ?_) #[true, true, true, true, true, true, true, true, true, true, true, true, true, true, true, true, false, false, false, false, false] rfl rfl (by kernel_rfl) (fun c a w h => HP.out c a _ _ w h) (Or.inr ⟨by rfl, rfl⟩) ?_ ?_
  rotate_left
  · simp only [Act.put, List.setIfInBounds_toArray, List.set_cons_zero, List.set_cons_succ, i64_w, i32_w]
    rfl
  refine pure_ (i := 16) (N := some 25) (v := undef) (a' := ?_) #[true, true, true, true, true, true, true, true, true, true, true, true, true, true, true, true, true, false, false, false, false] rfl rfl (by kernel_rfl) (fun c a w h => HP.out c a _ _ w h) (Or.inr ⟨by rfl, rfl⟩) ?_ ?_
  rotate_left
  · simp only [Act.put, List.setIfInBounds_toArray, List.set_cons_zero, List.set_cons_succ, i64_w, i32_w]
    rfl
  refine pure_ (i := 17) (N := some 26) (v := undef) (a' := ?_) #[true, true, true, true, true, true, true, true, true, true, true, true, true, true, true, true, true, true, false, false, false] rfl rfl (by kernel_rfl) (fun c a w h => HP.out c a _ _ w h) (Or.inr ⟨by rfl, rfl⟩) ?_ ?_
  rotate_left
  · simp only [Act.put, List.setIfInBounds_toArray, List.set_cons_zero, List.set_cons_succ, i64_w, i32_w]
    rfl
  refine pure_ (i := 18) (N := some 27) (v := undef) (a' := ?_) #[true, true, true, true, true, true, true, true, true, true, true, true, true, true, true, true, true, true, true, false, false] rfl rfl (by kernel_rfl) (fun c a w h => HP.out c a _ _ w h) (Or.inr ⟨by rfl, rfl⟩) ?_ ?_
  rotate_left
  · simp only [Act.put, List.setIfInBounds_toArray, List.set_cons_zero, List.set_cons_succ, i64_w, i32_w]
    rfl
  refine pure_ (i := 19) (N := some 28) (v := undef) (a' := ?_) #[true, true, true, true, true, true, true, true, true, true, true, true, true, true, true, true, true, true, true, true, false] rfl rfl (by kernel_rfl) (fun c a w h => HP.out c a _ _ w h) (Or.inr ⟨by rfl, rfl⟩) ?_ ?_
  rotate_left
  · simp only [Act.put, List.setIfInBounds_toArray, List.set_cons_zero, List.set_cons_succ, i64_w, i32_w]
    rfl
  refine pure_ (i := 20) (N := some 29) (v := ?_) (a' := ?_) #[true, true, true, true, true, true, true, true, true, true, true, true, true, true, true, true, true, true, true, true, true] rfl rfl (by kernel_rfl) (fun c a w h => HP.out c a _ _ w h) (Or.inl ⟨by rfl, ?_⟩) ?_ ?_
  rotate_left
  · intro w'
    go_simp
    with_reducible rfl
  rotate_left
  · simp only [Act.put, List.setIfInBounds_toArray, List.set_cons_zero, List.set_cons_succ, i64_w, i32_w]
    rfl
  refine done_ (by kernel_rfl) ?_
  exact HE.out _ _ _ _ _ _ _ _ _ _ _ _ _ _ _ _ _ _ _ _ _ HW3
noncomputable def sa2bC : Code := (Tryd.f14.body.bind (regC 2)).getD .skip
set_option maxHeartbeats 4000000 in
set_option maxRecDepth 100000 in
theorem sa2b_wp {w0 w : World} {L p S E gs : Nat} {cs : Array Value} {half frm end_ gen g : Int} {sv rv : Value} {snap : List Int} {recs : List (List Int)} {down : Bool} {s : ByteArray} {A vA : Option Addr} {rc vc : Nat} {rs : List ByteArray} {Q : Exit → Act → World → Prop} {c0 c3 c4 c6 c7 c8 c9 c10 c11 c12 c13 c14 c15 c16 c17 c18 c19 c20 c21 c22 c23 c24 c25 c26 c27 c28 c29 c30 c31 c32 c33 c34 c35 c36 c37 c38 c39 c40 c41 c42 c43 c44 c45 c46 : Value}
    (HL : Hid (Lm w0 w L p S E half frm end_ gen sv rv snap recs down)) (hsl : snap.length ≤ 4194304) (HS : Hid (w.heap[gs]? = some (.cells cs 39 (0, 0)))) (hc0 : cs[0]? = some (.int .u32 g)) (hc1 : cs[1]? = some (.string s)) (hc2 : cs[2]? = some (.slice A rs.length rc)) (hg : (gen != g) = false) (hs : ((str snap).toList == s.toList) = false)
    (HP : Hid (∀ c (a : Act) (N : Option Tmp) (v : Value) (w : World), Q (.panic c) (a.put N v) w → Q (.panic c) a w)) (HE : Hid (∀ (d9 d10 d11 d12 d13 d14 d15 d16 d17 d18 d19 d20 d21 d22 d23 d24 d25 d26 d27 d28 : Value) (w' : World), Hid (Below w.heap.size w w') → Q .normal ⟨#[c0, .pointer (some ⟨L, 0, none⟩), .pointer (some ⟨gs, 0, none⟩), c3, c4, .slice vA recs.length vc, c6, c7, c8, d9, d10, d11, d12, d13, d14, d15, d16, d17, d18, d19, d20, d21, d22, d23, d24, d25, d26, d27, d28, .bool true, c30, c31, c32, c33, c34, c35, c36, c37, c38, c39, c40, c41, c42, c43, c44, c45, c46], []⟩ w')) :
    Code.wp Tryd.prog sa2bC Q ⟨#[c0, .pointer (some ⟨L, 0, none⟩), .pointer (some ⟨gs, 0, none⟩), c3, c4, .slice vA recs.length vc, c6, c7, c8, c9, c10, c11, c12, c13, c14, c15, c16, c17, c18, c19, c20, c21, c22, c23, c24, c25, c26, c27, c28, c29, c30, c31, c32, c33, c34, c35, c36, c37, c38, c39, c40, c41, c42, c43, c44, c45, c46], []⟩ w := by
  unfold sa2bC
  conv => arg 2; whnf
  refine start_ (n := 21) (S := fun w' => w'.cell? ⟨gs, 0, none⟩ = some (.int .u32 g) ∧ w'.cell? ⟨gs, 1, none⟩ = some (.string s) ∧ w'.cell? ⟨gs, 2, none⟩ = some (.slice A rs.length rc)) (ds := []) #[false, false, false, false, false, false, false, false, false, false, false, false, false, false, false, false, false, false, false, false, false] (by kernel_rfl) rfl rfl ?_ (fun hHeld => ?_)
  · exact ⟨cell_eq (blk_cell (show w.drew.heap[gs]? = _ from HS.out) 0) hc0, cell_eq (blk_cell (show w.drew.heap[gs]? = _ from HS.out) 1) hc1, cell_eq (blk_cell (show w.drew.heap[gs]? = _ from HS.out) 2) hc2⟩
  have HW3 := Lib.hid ((Below.refl w.heap.size w).drew)
  generalize w.drew = w3 at hHeld HW3 ⊢
  refine pure_ (i := 0) (N := some 9) (v := ?_) (a' := ?_) #[true, false, false, false, false, false, false, false, false, false, false, false, false, false, false, false, false, false, false, false, false] rfl rfl (by kernel_rfl) (fun c a w h => HP.out c a _ _ w h) (Or.inl ⟨by rfl, ?_⟩) ?_ ?_
  rotate_left
  · intro w'
    go_simp
    with_reducible rfl
  rotate_left
  · simp only [Act.put, List.setIfInBounds_toArray, List.set_cons_zero, List.set_cons_succ, i64_w, i32_w]
    rfl
  refine pure_ (i := 2) (N := some 11) (v := ?_) (a' := ?_) #[true, false, true, false, false, false, false, false, false, false, false, false, false, false, false, false, false, false, false, false, false] rfl rfl (by kernel_rfl) (fun c a w h => HP.out c a _ _ w h) (Or.inl ⟨by rfl, ?_⟩) ?_ ?_
  rotate_left
  · intro w'
    go_simp
    with_reducible rfl
  rotate_left
  · simp only [Act.put, List.setIfInBounds_toArray, List.set_cons_zero, List.set_cons_succ, i64_w, i32_w]
    rfl
  refine take_ (i := 3) (N := some 12) (v := ?_) (a' := ?_) #[true, false, true, true, false, false, false, false, false, false, false, false, false, false, false, false, false, false, false, false, false] rfl rfl (by kernel_rfl) (fun c a w h => HP.out c a _ _ w h) (Or.inl ⟨by rfl, ?_⟩) hHeld ?_ ?_
  rotate_left
  · rintro w' ⟨s0, s1, s2⟩
    go_simp
    with_reducible rfl
  rotate_left
  · simp only [Act.put, List.setIfInBounds_toArray, List.set_cons_zero, List.set_cons_succ, i64_w, i32_w]
    rfl
  refine one_ (i := 1) (N := some 10) #[true, true, true, true, false, false, false, false, false, false, false, false, false, false, false, false, false, false, false, false, false] rfl rfl (by kernel_rfl) (by decide) (fun K hK => ?_)
  refine goes_ Tryd.func12 (by kernel_rfl) rfl #[.pointer (some ⟨L, 0, none⟩)] (by rfl) rfl rfl (by (try simp only [List.map_toArray, List.map_cons, List.map_nil]); first | done | rfl) ?_
  refine (gen_any (cell_eq (blk_cell (HL.out.below HW3.out).hL 4) rfl)).mono ?_
  rintro e w4 ⟨rfl, rfl⟩
  refine ⟨_, rfl, ?_⟩
  refine hK.out _ _ hHeld (fun hHeld => ?_)
  clear hK K
  refine pure_ (i := 4) (N := some 13) (v := ?_) (a' := ?_) #[true, true, true, true, true, false, false, false, false, false, false, false, false, false, false, false, false, false, false, false, false] rfl rfl (by kernel_rfl) (fun c a w h => HP.out c a _ _ w h) (Or.inl ⟨by rfl, ?_⟩) ?_ ?_
  rotate_left
  · intro w'
    go_simp
    with_reducible rfl
  rotate_left
  · simp only [Act.put, List.setIfInBounds_toArray, List.set_cons_zero, List.set_cons_succ, i64_w, i32_w]
    rfl
  refine pure_ (i := 5) (N := some 14) (v := ?_) (a' := ?_) #[true, true, true, true, true, true, false, false, false, false, false, false, false, false, false, false, false, false, false, false, false] rfl rfl (by kernel_rfl) (fun c a w h => HP.out c a _ _ w h) (Or.inl ⟨by rfl, ?_⟩) ?_ ?_
  rotate_left
  · intro w'
    go_simp
    with_reducible rfl
  rotate_left
  · simp only [Act.put, List.setIfInBounds_toArray, List.set_cons_zero, List.set_cons_succ, i64_w, i32_w]
    rfl
  refine pure_ (i := 6) (N := some 15) (v := ?_) (a' := ?_) #[true, true, true, true, true, true, true, false, false, false, false, false, false, false, false, false, false, false, false, false, false] rfl rfl (by kernel_rfl) (fun c a w h => HP.out c a _ _ w h) (Or.inl ⟨by rfl, ?_⟩) ?_ ?_
  rotate_left
  · intro w'
    go_simp
    with_reducible rfl
  rotate_left
  · simp only [Act.put, List.setIfInBounds_toArray, List.set_cons_zero, List.set_cons_succ, i64_w, i32_w]
    rfl
  refine pure_ (i := 9) (N := some 18) (v := ?_) (a' := ?_) #[true, true, true, true, true, true, true, false, false, true, false, false, false, false, false, false, false, false, false, false, false] rfl rfl (by kernel_rfl) (fun c a w h => HP.out c a _ _ w h) (Or.inl ⟨by rfl, ?_⟩) ?_ ?_
  rotate_left
  · intro w'
    go_simp
    with_reducible rfl
  rotate_left
  · simp only [Act.put, List.setIfInBounds_toArray, List.set_cons_zero, List.set_cons_succ, i64_w, i32_w]
    rfl
  refine take_ (i := 10) (N := some 19) (v := ?_) (a' := ?_) #[true, true, true, true, true, true, true, false, false, true, true, false, false, false, false, false, false, false, false, false, false] rfl rfl (by kernel_rfl) (fun c a w h => HP.out c a _ _ w h) (Or.inl ⟨by rfl, ?_⟩) hHeld ?_ ?_
  rotate_left
  · rintro w' ⟨s0, s1, s2⟩
    go_simp
    with_reducible rfl
  rotate_left
  · simp only [Act.put, List.setIfInBounds_toArray, List.set_cons_zero, List.set_cons_succ, i64_w, i32_w]
    rfl
  refine one_ (i := 7) (N := some 16) #[true, true, true, true, true, true, true, true, false, true, true, false, false, false, false, false, false, false, false, false, false] rfl rfl (by kernel_rfl) (by decide) (fun K hK => ?_)
  refine goes_ Tryd.func31 (by kernel_rfl) rfl #[.pointer (some ⟨L, 0, none⟩)] (by rfl) rfl rfl (by (try simp only [List.map_toArray, List.map_cons, List.map_nil]); first | done | rfl) ?_
  refine (snapshot_any (HL.out.below HW3.out) hsl).mono ?_
  rintro e w5 ⟨v, rfl, hR, hb⟩
  refine ⟨_, rfl, ?_⟩
  obtain ⟨sA, sc, rfl, _, hCs⟩ := Kd.R_reads hR
  have HCS := Lib.hid (conv_str hCs (c := sc))
  have HW5 := Lib.hid (HW3.out.trans (hb.mono HW3.out.size))
  clear hR hCs
  refine hK.out _ _ ⟨cell_eq (blk_cell (keep_below HW5.out HS.out) 0) hc0, cell_eq (blk_cell (keep_below HW5.out HS.out) 1) hc1, cell_eq (blk_cell (keep_below HW5.out HS.out) 2) hc2⟩ (fun hHeld => ?_)
  clear hK K hb
  refine one_ (i := 8) (N := some 17) #[true, true, true, true, true, true, true, true, true, true, true, false, false, false, false, false, false, false, false, false, false] rfl rfl (by kernel_rfl) (by decide) (fun K hK => ?_)
  refine runs_ (by rfl) rfl (v := .string (str snap)) (w1 := w5) ?_ ?_
  · have hcv := HCS.out
    go_simp
  refine hK.out _ _ hHeld (fun hHeld => ?_)
  clear hK K
  refine pure_ (i := 11) (N := some 20) (v := ?_) (a' := ?_) #[true, true, true, true, true, true, true, true, true, true, true, true, false, false, false, false, false, false, false, false, false] rfl rfl (by kernel_rfl) (fun c a w h => HP.out c a _ _ w h) (Or.inl ⟨by rfl, ?_⟩) ?_ ?_
  rotate_left
  · intro w'
    go_simp
    with_reducible rfl
  rotate_left
  · simp only [Act.put, List.setIfInBounds_toArray, List.set_cons_zero, List.set_cons_succ, i64_w, i32_w]
    rfl
  refine pure_ (i := 12) (N := some 21) (v := ?_) (a' := ?_) #[true, true, true, true, true, true, true, true, true, true, true, true, true, false, false, false, false, false, false, false, false] rfl rfl (by kernel_rfl) (fun c a w h => HP.out c a _ _ w h) (Or.inl ⟨by rfl, ?_⟩) ?_ ?_
  rotate_left
  · intro w'
    go_simp
    with_reducible rfl
  rotate_left
  · simp only [Act.put, List.setIfInBounds_toArray, List.set_cons_zero, List.set_cons_succ, i64_w, i32_w]
    rfl
  refine pure_ (i := 13) (N := some 22) (v := ?_) (a' := ?_) #[true, true, true, true, true, true, true, true, true, true, true, true, true, true, false, false, false, false, false, false, false] rfl rfl (by kernel_rfl) (fun c a w h => HP.out c a _ _ w h) (Or.inl ⟨by rfl, ?_⟩) ?_ ?_
  rotate_left
  · intro w'
    go_simp
    with_reducible rfl
  rotate_left
  · simp only [Act.put, List.setIfInBounds_toArray, List.set_cons_zero, List.set_cons_succ, i64_w, i32_w]
    rfl
  refine pure_ (i := 14) (N := some 23) (v := undef) (a' := ?_) #[true, true, true, true, true, true, true, true, true, true, true, true, true, true, true, false, false, false, false, false, false] rfl rfl (by kernel_rfl) (fun c a w h => HP.out c a _ _ w h) (Or.inr ⟨by rfl, rfl⟩) ?_ ?_
  rotate_left
  · simp only [Act.put, List.setIfInBounds_toArray, List.set_cons_zero, List.set_cons_succ, i64_w, i32_w]
    rfl
  refine pure_ (i := 15) (N := some 24) (v := undef) (a' := ?_) #[true, true, true, true, true, true, true, true, true, true, true, true, true, true, true, true, false, false, false, false, false] rfl rfl (by kernel_rfl) (fun c a w h => HP.out c a _ _ w h) (Or.inr ⟨by rfl, rfl⟩) ?_ ?_
  rotate_left
  · simp only [Act.put, List.setIfInBounds_toArray, List.set_cons_zero, List.set_cons_succ, i64_w, i32_w]
    rfl
  refine pure_ (i := 16) (N := some 25) (v := undef) (a' := ?_) #[true, true, true, true, true, true, true, true, true, true, true, true, true, true, true, true, true, false, false, false, false] rfl rfl (by kernel_rfl) (fun c a w h => HP.out c a _ _ w h) (Or.inr ⟨by rfl, rfl⟩) ?_ ?_
  rotate_left
  · simp only [Act.put, List.setIfInBounds_toArray, List.set_cons_zero, List.set_cons_succ, i64_w, i32_w]
    rfl
  refine pure_ (i := 17) (N := some 26) (v := undef) (a' := ?_) #[true, true, true, true, true, true, true, true, true, true, true, true, true, true, true, true, true, true, false, false, false] rfl rfl (by kernel_rfl) (fun c a w h => HP.out c a _ _ w h) (Or.inr ⟨by rfl, rfl⟩) ?_ ?_
  rotate_left
  · simp only [Act.put, List.setIfInBounds_toArray, List.set_cons_zero, List.set_cons_succ, i64_w, i32_w]
    rfl
  refine pure_ (i := 18) (N := some 27) (v := undef) (a' := ?_) #[true, true, true, true, true, true, true, true, true, true, true, true, true, true, true, true, true, true, true, false, false] rfl rfl (by kernel_rfl) (fun c a w h => HP.out c a _ _ w h) (Or.inr ⟨by rfl, rfl⟩) ?_ ?_
  rotate_left
  · simp only [Act.put, List.setIfInBounds_toArray, List.set_cons_zero, List.set_cons_succ, i64_w, i32_w]
    rfl
  refine pure_ (i := 19) (N := some 28) (v := undef) (a' := ?_) #[true, true, true, true, true, true, true, true, true, true, true, true, true, true, true, true, true, true, true, true, false] rfl rfl (by kernel_rfl) (fun c a w h => HP.out c a _ _ w h) (Or.inr ⟨by rfl, rfl⟩) ?_ ?_
  rotate_left
  · simp only [Act.put, List.setIfInBounds_toArray, List.set_cons_zero, List.set_cons_succ, i64_w, i32_w]
    rfl
  refine pure_ (i := 20) (N := some 29) (v := ?_) (a' := ?_) #[true, true, true, true, true, true, true, true, true, true, true, true, true, true, true, true, true, true, true, true, true] rfl rfl (by kernel_rfl) (fun c a w h => HP.out c a _ _ w h) (Or.inl ⟨by rfl, ?_⟩) ?_ ?_
  rotate_left
  · intro w'
    go_simp
    with_reducible rfl
  rotate_left
  · simp only [Act.put, List.setIfInBounds_toArray, List.set_cons_zero, List.set_cons_succ, i64_w, i32_w]
    rfl
  refine done_ (by kernel_rfl) ?_
  exact HE.out _ _ _ _ _ _ _ _ _ _ _ _ _ _ _ _ _ _ _ _ _ HW5
noncomputable def sa2cC : Code := (Tryd.f14.body.bind (regC 2)).getD .skip
set_option maxHeartbeats 4000000 in
set_option maxRecDepth 100000 in
theorem sa2c_wp {w0 w : World} {L p S E gs : Nat} {cs : Array Value} {half frm end_ gen g : Int} {sv rv : Value} {snap : List Int} {recs : List (List Int)} {down : Bool} {s : ByteArray} {A vA : Option Addr} {rc vc : Nat} {rs : List ByteArray} {Q : Exit → Act → World → Prop} {c0 c3 c4 c6 c7 c8 c9 c10 c11 c12 c13 c14 c15 c16 c17 c18 c19 c20 c21 c22 c23 c24 c25 c26 c27 c28 c29 c30 c31 c32 c33 c34 c35 c36 c37 c38 c39 c40 c41 c42 c43 c44 c45 c46 : Value}
    (HL : Hid (Lm w0 w L p S E half frm end_ gen sv rv snap recs down)) (hsl : snap.length ≤ 4194304) (HS : Hid (w.heap[gs]? = some (.cells cs 39 (0, 0)))) (hc0 : cs[0]? = some (.int .u32 g)) (hc1 : cs[1]? = some (.string s)) (hc2 : cs[2]? = some (.slice A rs.length rc)) (hg : (gen != g) = false) (hs : ((str snap).toList == s.toList) = true) {b3 : Bool} (h3 : ((recs.length : Int) != (rs.length : Int)) = b3)
    (HP : Hid (∀ c (a : Act) (N : Option Tmp) (v : Value) (w : World), Q (.panic c) (a.put N v) w → Q (.panic c) a w)) (HE : Hid (∀ (d9 d10 d11 d12 d13 d14 d15 d16 d17 d18 d19 d20 d21 d22 d23 d24 d25 d26 d27 d28 : Value) (w' : World), Hid (Below w.heap.size w w') → Q .normal ⟨#[c0, .pointer (some ⟨L, 0, none⟩), .pointer (some ⟨gs, 0, none⟩), c3, c4, .slice vA recs.length vc, c6, c7, c8, d9, d10, d11, d12, d13, d14, d15, d16, d17, d18, d19, d20, d21, d22, d23, d24, d25, d26, d27, d28, .bool b3, c30, c31, c32, c33, c34, c35, c36, c37, c38, c39, c40, c41, c42, c43, c44, c45, c46], []⟩ w')) :
    Code.wp Tryd.prog sa2cC Q ⟨#[c0, .pointer (some ⟨L, 0, none⟩), .pointer (some ⟨gs, 0, none⟩), c3, c4, .slice vA recs.length vc, c6, c7, c8, c9, c10, c11, c12, c13, c14, c15, c16, c17, c18, c19, c20, c21, c22, c23, c24, c25, c26, c27, c28, c29, c30, c31, c32, c33, c34, c35, c36, c37, c38, c39, c40, c41, c42, c43, c44, c45, c46], []⟩ w := by
  unfold sa2cC
  conv => arg 2; whnf
  refine start_ (n := 21) (S := fun w' => w'.cell? ⟨gs, 0, none⟩ = some (.int .u32 g) ∧ w'.cell? ⟨gs, 1, none⟩ = some (.string s) ∧ w'.cell? ⟨gs, 2, none⟩ = some (.slice A rs.length rc)) (ds := []) #[false, false, false, false, false, false, false, false, false, false, false, false, false, false, false, false, false, false, false, false, false] (by kernel_rfl) rfl rfl ?_ (fun hHeld => ?_)
  · exact ⟨cell_eq (blk_cell (show w.drew.heap[gs]? = _ from HS.out) 0) hc0, cell_eq (blk_cell (show w.drew.heap[gs]? = _ from HS.out) 1) hc1, cell_eq (blk_cell (show w.drew.heap[gs]? = _ from HS.out) 2) hc2⟩
  have HW3 := Lib.hid ((Below.refl w.heap.size w).drew)
  generalize w.drew = w3 at hHeld HW3 ⊢
  refine pure_ (i := 0) (N := some 9) (v := ?_) (a' := ?_) #[true, false, false, false, false, false, false, false, false, false, false, false, false, false, false, false, false, false, false, false, false] rfl rfl (by kernel_rfl) (fun c a w h => HP.out c a _ _ w h) (Or.inl ⟨by rfl, ?_⟩) ?_ ?_
  rotate_left
  · intro w'
    go_simp
    with_reducible rfl
  rotate_left
  · simp only [Act.put, List.setIfInBounds_toArray, List.set_cons_zero, List.set_cons_succ, i64_w, i32_w]
    rfl
  refine pure_ (i := 2) (N := some 11) (v := ?_) (a' := ?_) #[true, false, true, false, false, false, false, false, false, false, false, false, false, false, false, false, false, false, false, false, false] rfl rfl (by kernel_rfl) (fun c a w h => HP.out c a _ _ w h) (Or.inl ⟨by rfl, ?_⟩) ?_ ?_
  rotate_left
  · intro w'
    go_simp
    with_reducible rfl
  rotate_left
  · simp only [Act.put, List.setIfInBounds_toArray, List.set_cons_zero, List.set_cons_succ, i64_w, i32_w]
    rfl
  refine take_ (i := 3) (N := some 12) (v := ?_) (a' := ?_) #[true, false, true, true, false, false, false, false, false, false, false, false, false, false, false, false, false, false, false, false, false] rfl rfl (by kernel_rfl) (fun c a w h => HP.out c a _ _ w h) (Or.inl ⟨by rfl, ?_⟩) hHeld ?_ ?_
  rotate_left
  · rintro w' ⟨s0, s1, s2⟩
    go_simp
    with_reducible rfl
  rotate_left
  · simp only [Act.put, List.setIfInBounds_toArray, List.set_cons_zero, List.set_cons_succ, i64_w, i32_w]
    rfl
  refine one_ (i := 1) (N := some 10) #[true, true, true, true, false, false, false, false, false, false, false, false, false, false, false, false, false, false, false, false, false] rfl rfl (by kernel_rfl) (by decide) (fun K hK => ?_)
  refine goes_ Tryd.func12 (by kernel_rfl) rfl #[.pointer (some ⟨L, 0, none⟩)] (by rfl) rfl rfl (by (try simp only [List.map_toArray, List.map_cons, List.map_nil]); first | done | rfl) ?_
  refine (gen_any (cell_eq (blk_cell (HL.out.below HW3.out).hL 4) rfl)).mono ?_
  rintro e w4 ⟨rfl, rfl⟩
  refine ⟨_, rfl, ?_⟩
  refine hK.out _ _ hHeld (fun hHeld => ?_)
  clear hK K
  refine pure_ (i := 4) (N := some 13) (v := ?_) (a' := ?_) #[true, true, true, true, true, false, false, false, false, false, false, false, false, false, false, false, false, false, false, false, false] rfl rfl (by kernel_rfl) (fun c a w h => HP.out c a _ _ w h) (Or.inl ⟨by rfl, ?_⟩) ?_ ?_
  rotate_left
  · intro w'
    go_simp
    with_reducible rfl
  rotate_left
  · simp only [Act.put, List.setIfInBounds_toArray, List.set_cons_zero, List.set_cons_succ, i64_w, i32_w]
    rfl
  refine pure_ (i := 5) (N := some 14) (v := ?_) (a' := ?_) #[true, true, true, true, true, true, false, false, false, false, false, false, false, false, false, false, false, false, false, false, false] rfl rfl (by kernel_rfl) (fun c a w h => HP.out c a _ _ w h) (Or.inl ⟨by rfl, ?_⟩) ?_ ?_
  rotate_left
  · intro w'
    go_simp
    with_reducible rfl
  rotate_left
  · simp only [Act.put, List.setIfInBounds_toArray, List.set_cons_zero, List.set_cons_succ, i64_w, i32_w]
    rfl
  refine pure_ (i := 6) (N := some 15) (v := ?_) (a' := ?_) #[true, true, true, true, true, true, true, false, false, false, false, false, false, false, false, false, false, false, false, false, false] rfl rfl (by kernel_rfl) (fun c a w h => HP.out c a _ _ w h) (Or.inl ⟨by rfl, ?_⟩) ?_ ?_
  rotate_left
  · intro w'
    go_simp
    with_reducible rfl
  rotate_left
  · simp only [Act.put, List.setIfInBounds_toArray, List.set_cons_zero, List.set_cons_succ, i64_w, i32_w]
    rfl
  refine pure_ (i := 9) (N := some 18) (v := ?_) (a' := ?_) #[true, true, true, true, true, true, true, false, false, true, false, false, false, false, false, false, false, false, false, false, false] rfl rfl (by kernel_rfl) (fun c a w h => HP.out c a _ _ w h) (Or.inl ⟨by rfl, ?_⟩) ?_ ?_
  rotate_left
  · intro w'
    go_simp
    with_reducible rfl
  rotate_left
  · simp only [Act.put, List.setIfInBounds_toArray, List.set_cons_zero, List.set_cons_succ, i64_w, i32_w]
    rfl
  refine take_ (i := 10) (N := some 19) (v := ?_) (a' := ?_) #[true, true, true, true, true, true, true, false, false, true, true, false, false, false, false, false, false, false, false, false, false] rfl rfl (by kernel_rfl) (fun c a w h => HP.out c a _ _ w h) (Or.inl ⟨by rfl, ?_⟩) hHeld ?_ ?_
  rotate_left
  · rintro w' ⟨s0, s1, s2⟩
    go_simp
    with_reducible rfl
  rotate_left
  · simp only [Act.put, List.setIfInBounds_toArray, List.set_cons_zero, List.set_cons_succ, i64_w, i32_w]
    rfl
  refine one_ (i := 7) (N := some 16) #[true, true, true, true, true, true, true, true, false, true, true, false, false, false, false, false, false, false, false, false, false] rfl rfl (by kernel_rfl) (by decide) (fun K hK => ?_)
  refine goes_ Tryd.func31 (by kernel_rfl) rfl #[.pointer (some ⟨L, 0, none⟩)] (by rfl) rfl rfl (by (try simp only [List.map_toArray, List.map_cons, List.map_nil]); first | done | rfl) ?_
  refine (snapshot_any (HL.out.below HW3.out) hsl).mono ?_
  rintro e w5 ⟨v, rfl, hR, hb⟩
  refine ⟨_, rfl, ?_⟩
  obtain ⟨sA, sc, rfl, _, hCs⟩ := Kd.R_reads hR
  have HCS := Lib.hid (conv_str hCs (c := sc))
  have HW5 := Lib.hid (HW3.out.trans (hb.mono HW3.out.size))
  clear hR hCs
  refine hK.out _ _ ⟨cell_eq (blk_cell (keep_below HW5.out HS.out) 0) hc0, cell_eq (blk_cell (keep_below HW5.out HS.out) 1) hc1, cell_eq (blk_cell (keep_below HW5.out HS.out) 2) hc2⟩ (fun hHeld => ?_)
  clear hK K hb
  refine one_ (i := 8) (N := some 17) #[true, true, true, true, true, true, true, true, true, true, true, false, false, false, false, false, false, false, false, false, false] rfl rfl (by kernel_rfl) (by decide) (fun K hK => ?_)
  refine runs_ (by rfl) rfl (v := .string (str snap)) (w1 := w5) ?_ ?_
  · have hcv := HCS.out
    go_simp
  refine hK.out _ _ hHeld (fun hHeld => ?_)
  clear hK K
  refine pure_ (i := 11) (N := some 20) (v := ?_) (a' := ?_) #[true, true, true, true, true, true, true, true, true, true, true, true, false, false, false, false, false, false, false, false, false] rfl rfl (by kernel_rfl) (fun c a w h => HP.out c a _ _ w h) (Or.inl ⟨by rfl, ?_⟩) ?_ ?_
  rotate_left
  · intro w'
    go_simp
    with_reducible rfl
  rotate_left
  · simp only [Act.put, List.setIfInBounds_toArray, List.set_cons_zero, List.set_cons_succ, i64_w, i32_w]
    rfl
  refine pure_ (i := 12) (N := some 21) (v := ?_) (a' := ?_) #[true, true, true, true, true, true, true, true, true, true, true, true, true, false, false, false, false, false, false, false, false] rfl rfl (by kernel_rfl) (fun c a w h => HP.out c a _ _ w h) (Or.inl ⟨by rfl, ?_⟩) ?_ ?_
  rotate_left
  · intro w'
    go_simp
    with_reducible rfl
  rotate_left
  · simp only [Act.put, List.setIfInBounds_toArray, List.set_cons_zero, List.set_cons_succ, i64_w, i32_w]
    rfl
  refine pure_ (i := 13) (N := some 22) (v := ?_) (a' := ?_) #[true, true, true, true, true, true, true, true, true, true, true, true, true, true, false, false, false, false, false, false, false] rfl rfl (by kernel_rfl) (fun c a w h => HP.out c a _ _ w h) (Or.inl ⟨by rfl, ?_⟩) ?_ ?_
  rotate_left
  · intro w'
    go_simp
    with_reducible rfl
  rotate_left
  · simp only [Act.put, List.setIfInBounds_toArray, List.set_cons_zero, List.set_cons_succ, i64_w, i32_w]
    rfl
  refine pure_ (i := 14) (N := some 23) (v := ?_) (a' := ?_) #[true, true, true, true, true, true, true, true, true, true, true, true, true, true, true, false, false, false, false, false, false] rfl rfl (by kernel_rfl) (fun c a w h => HP.out c a _ _ w h) (Or.inl ⟨by rfl, ?_⟩) ?_ ?_
  rotate_left
  · intro w'
    go_simp
    with_reducible rfl
  rotate_left
  · simp only [Act.put, List.setIfInBounds_toArray, List.set_cons_zero, List.set_cons_succ, i64_w, i32_w]
    rfl
  refine pure_ (i := 15) (N := some 24) (v := ?_) (a' := ?_) #[true, true, true, true, true, true, true, true, true, true, true, true, true, true, true, true, false, false, false, false, false] rfl rfl (by kernel_rfl) (fun c a w h => HP.out c a _ _ w h) (Or.inl ⟨by rfl, ?_⟩) ?_ ?_
  rotate_left
  · intro w'
    go_simp
    with_reducible rfl
  rotate_left
  · simp only [Act.put, List.setIfInBounds_toArray, List.set_cons_zero, List.set_cons_succ, i64_w, i32_w]
    rfl
  refine pure_ (i := 16) (N := some 25) (v := ?_) (a' := ?_) #[true, true, true, true, true, true, true, true, true, true, true, true, true, true, true, true, true, false, false, false, false] rfl rfl (by kernel_rfl) (fun c a w h => HP.out c a _ _ w h) (Or.inl ⟨by rfl, ?_⟩) ?_ ?_
  rotate_left
  · intro w'
    go_simp
    with_reducible rfl
  rotate_left
  · simp only [Act.put, List.setIfInBounds_toArray, List.set_cons_zero, List.set_cons_succ, i64_w, i32_w]
    rfl
  refine take_ (i := 17) (N := some 26) (v := ?_) (a' := ?_) #[true, true, true, true, true, true, true, true, true, true, true, true, true, true, true, true, true, true, false, false, false] rfl rfl (by kernel_rfl) (fun c a w h => HP.out c a _ _ w h) (Or.inl ⟨by rfl, ?_⟩) hHeld ?_ ?_
  rotate_left
  · rintro w' ⟨s0, s1, s2⟩
    go_simp
    with_reducible rfl
  rotate_left
  · simp only [Act.put, List.setIfInBounds_toArray, List.set_cons_zero, List.set_cons_succ, i64_w, i32_w]
    rfl
  refine pure_ (i := 18) (N := some 27) (v := ?_) (a' := ?_) #[true, true, true, true, true, true, true, true, true, true, true, true, true, true, true, true, true, true, true, false, false] rfl rfl (by kernel_rfl) (fun c a w h => HP.out c a _ _ w h) (Or.inl ⟨by rfl, ?_⟩) ?_ ?_
  rotate_left
  · intro w'
    go_simp
    with_reducible rfl
  rotate_left
  · simp only [Act.put, List.setIfInBounds_toArray, List.set_cons_zero, List.set_cons_succ, i64_w, i32_w]
    rfl
  refine pure_ (i := 19) (N := some 28) (v := ?_) (a' := ?_) #[true, true, true, true, true, true, true, true, true, true, true, true, true, true, true, true, true, true, true, true, false] rfl rfl (by kernel_rfl) (fun c a w h => HP.out c a _ _ w h) (Or.inl ⟨by rfl, ?_⟩) ?_ ?_
  rotate_left
  · intro w'
    go_simp
    with_reducible rfl
  rotate_left
  · simp only [Act.put, List.setIfInBounds_toArray, List.set_cons_zero, List.set_cons_succ, i64_w, i32_w]
    rfl
  refine pure_ (i := 20) (N := some 29) (v := ?_) (a' := ?_) #[true, true, true, true, true, true, true, true, true, true, true, true, true, true, true, true, true, true, true, true, true] rfl rfl (by kernel_rfl) (fun c a w h => HP.out c a _ _ w h) (Or.inl ⟨by rfl, ?_⟩) ?_ ?_
  rotate_left
  · intro w'
    go_simp
    with_reducible rfl
  rotate_left
  · simp only [Act.put, List.setIfInBounds_toArray, List.set_cons_zero, List.set_cons_succ, i64_w, i32_w]
    rfl
  refine done_ (by kernel_rfl) ?_
  exact HE.out _ _ _ _ _ _ _ _ _ _ _ _ _ _ _ _ _ _ _ _ _ HW5
noncomputable def sa7C : Code := (Tryd.f14.body.bind (regC 7)).getD .skip
set_option maxHeartbeats 4000000 in
set_option maxRecDepth 100000 in
theorem sa7_wp {w : World} {gs j : Nat} {cs : Array Value} {A B : Option Addr} {ad sd : Addr} {n m vc rc bc : Nat} {b : List Int} {t : ByteArray} {q : Bool} {Q : Exit → Act → World → Prop} {c0 c1 c3 c4 c7 c8 c9 c10 c11 c12 c13 c14 c15 c16 c17 c18 c19 c20 c21 c22 c23 c24 c25 c26 c27 c28 c29 c30 c31 c32 c33 c34 c35 c36 c37 c38 c39 c40 c41 c42 c43 c44 c45 c46 : Value}
    (hj1 : j < n) (hj2 : j < m) (HCL : Hid (w.cell? (ad.add j) = some (.slice B b.length bc))) (HCB : Hid ((Kd.int .u8).C w B b.length b)) (HS : Hid (w.heap[gs]? = some (.cells cs 39 (0, 0)))) (hc2 : cs[2]? = some (.slice (some sd) m rc)) (HT : Hid (w.cell? (sd.add j) = some (.string t))) (hq : ((str b).toList == t.toList) = q)
    (HP : Hid (∀ c (a : Act) (N : Option Tmp) (v : Value) (w : World), Q (.panic c) (a.put N v) w → Q (.panic c) a w)) (HE : Hid (∀ (d35 d36 d37 d38 d39 d40 d41 d42 d43 d44 : Value) (w' : World), Hid (Below w.heap.size w w') → Q .normal ⟨#[c0, c1, .pointer (some ⟨gs, 0, none⟩), c3, c4, .slice (some ad) n vc, .int .i64 (j : Int), c7, c8, c9, c10, c11, c12, c13, c14, c15, c16, c17, c18, c19, c20, c21, c22, c23, c24, c25, c26, c27, c28, c29, c30, c31, c32, c33, c34, d35, d36, d37, d38, d39, d40, d41, d42, d43, d44, .bool (!q), c46], []⟩ w')) :
    Code.wp Tryd.prog sa7C Q ⟨#[c0, c1, .pointer (some ⟨gs, 0, none⟩), c3, c4, .slice (some ad) n vc, .int .i64 (j : Int), c7, c8, c9, c10, c11, c12, c13, c14, c15, c16, c17, c18, c19, c20, c21, c22, c23, c24, c25, c26, c27, c28, c29, c30, c31, c32, c33, c34, c35, c36, c37, c38, c39, c40, c41, c42, c43, c44, c45, c46], []⟩ w := by
  unfold sa7C
  conv => arg 2; whnf
  refine start_ (n := 11) (S := fun w' => w'.cell? ⟨gs, 2, none⟩ = some (.slice (some sd) m rc) ∧ w'.cell? (ad.add j) = some (.slice B b.length bc) ∧ w'.cell? (sd.add j) = some (.string t) ∧ (convert 23 9 (.slice B b.length bc)).run Tryd.prog w' = .ok (.string (str b)) w') (ds := []) #[false, false, false, false, false, false, false, false, false, false, false] (by kernel_rfl) rfl rfl ?_ (fun hHeld => ?_)
  · exact ⟨cell_eq (blk_cell (show w.drew.heap[gs]? = _ from HS.out) 2) hc2, HCL.out, HT.out, conv_str (Kd.C_below HCB.out (Below.refl _ w).drew)⟩
  have HW3 := Lib.hid ((Below.refl w.heap.size w).drew)
  generalize w.drew = w3 at hHeld HW3 ⊢
  refine pure_ (i := 0) (N := some 35) (v := ?_) (a' := ?_) #[true, false, false, false, false, false, false, false, false, false, false] rfl rfl (by kernel_rfl) (fun c a w h => HP.out c a _ _ w h) (Or.inl ⟨by rfl, ?_⟩) ?_ ?_
  rotate_left
  · intro w'
    go_simp
    with_reducible rfl
  rotate_left
  · simp only [Act.put, List.setIfInBounds_toArray, List.set_cons_zero, List.set_cons_succ, i64_w, i32_w]
    rfl
  refine pure_ (i := 1) (N := some 36) (v := ?_) (a' := ?_) #[true, true, false, false, false, false, false, false, false, false, false] rfl rfl (by kernel_rfl) (fun c a w h => HP.out c a _ _ w h) (Or.inl ⟨by rfl, ?_⟩) ?_ ?_
  rotate_left
  · intro w'
    go_simp
    with_reducible rfl
  rotate_left
  · simp only [Act.put, List.setIfInBounds_toArray, List.set_cons_zero, List.set_cons_succ, i64_w, i32_w]
    rfl
  refine pure_ (i := 2) (N := some 37) (v := ?_) (a' := ?_) #[true, true, true, false, false, false, false, false, false, false, false] rfl rfl (by kernel_rfl) (fun c a w h => HP.out c a _ _ w h) (Or.inl ⟨by rfl, ?_⟩) ?_ ?_
  rotate_left
  · intro w'
    go_simp
    with_reducible rfl
  rotate_left
  · simp only [Act.put, List.setIfInBounds_toArray, List.set_cons_zero, List.set_cons_succ, i64_w, i32_w]
    rfl
  refine take_ (i := 3) (N := some 38) (v := ?_) (a' := ?_) #[true, true, true, true, false, false, false, false, false, false, false] rfl rfl (by kernel_rfl) (fun c a w h => HP.out c a _ _ w h) (Or.inl ⟨by rfl, ?_⟩) hHeld ?_ ?_
  rotate_left
  · rintro w' ⟨s0, s1, s2, s3⟩
    go_simp
    with_reducible rfl
  rotate_left
  · simp only [Act.put, List.setIfInBounds_toArray, List.set_cons_zero, List.set_cons_succ, i64_w, i32_w]
    rfl
  refine take_ (i := 4) (N := some 39) (v := ?_) (a' := ?_) #[true, true, true, true, true, false, false, false, false, false, false] rfl rfl (by kernel_rfl) (fun c a w h => HP.out c a _ _ w h) (Or.inl ⟨by rfl, ?_⟩) hHeld ?_ ?_
  rotate_left
  · rintro w' ⟨s0, s1, s2, s3⟩
    go_simp
    with_reducible rfl
  rotate_left
  · simp only [Act.put, List.setIfInBounds_toArray, List.set_cons_zero, List.set_cons_succ, i64_w, i32_w]
    rfl
  refine pure_ (i := 5) (N := some 40) (v := ?_) (a' := ?_) #[true, true, true, true, true, true, false, false, false, false, false] rfl rfl (by kernel_rfl) (fun c a w h => HP.out c a _ _ w h) (Or.inl ⟨by rfl, ?_⟩) ?_ ?_
  rotate_left
  · intro w'
    go_simp
    with_reducible rfl
  rotate_left
  · simp only [Act.put, List.setIfInBounds_toArray, List.set_cons_zero, List.set_cons_succ, i64_w, i32_w]
    rfl
  refine take_ (i := 6) (N := some 41) (v := ?_) (a' := ?_) #[true, true, true, true, true, true, true, false, false, false, false] rfl rfl (by kernel_rfl) (fun c a w h => HP.out c a _ _ w h) (Or.inl ⟨by rfl, ?_⟩) hHeld ?_ ?_
  rotate_left
  · rintro w' ⟨s0, s1, s2, s3⟩
    go_simp
    with_reducible rfl
  rotate_left
  · simp only [Act.put, List.setIfInBounds_toArray, List.set_cons_zero, List.set_cons_succ, i64_w, i32_w]
    rfl
  refine pure_ (i := 7) (N := some 42) (v := ?_) (a' := ?_) #[true, true, true, true, true, true, true, true, false, false, false] rfl rfl (by kernel_rfl) (fun c a w h => HP.out c a _ _ w h) (Or.inl ⟨by rfl, ?_⟩) ?_ ?_
  rotate_left
  · intro w'
    go_simp
    with_reducible rfl
  rotate_left
  · simp only [Act.put, List.setIfInBounds_toArray, List.set_cons_zero, List.set_cons_succ, i64_w, i32_w]
    rfl
  refine pure_ (i := 8) (N := some 43) (v := ?_) (a' := ?_) #[true, true, true, true, true, true, true, true, true, false, false] rfl rfl (by kernel_rfl) (fun c a w h => HP.out c a _ _ w h) (Or.inl ⟨by rfl, ?_⟩) ?_ ?_
  rotate_left
  · intro w'
    go_simp
    with_reducible rfl
  rotate_left
  · simp only [Act.put, List.setIfInBounds_toArray, List.set_cons_zero, List.set_cons_succ, i64_w, i32_w]
    rfl
  refine take_ (i := 9) (N := some 44) (v := ?_) (a' := ?_) #[true, true, true, true, true, true, true, true, true, true, false] rfl rfl (by kernel_rfl) (fun c a w h => HP.out c a _ _ w h) (Or.inl ⟨by rfl, ?_⟩) hHeld ?_ ?_
  rotate_left
  · rintro w' ⟨s0, s1, s2, s3⟩
    go_simp
    with_reducible rfl
  rotate_left
  · simp only [Act.put, List.setIfInBounds_toArray, List.set_cons_zero, List.set_cons_succ, i64_w, i32_w]
    rfl
  refine pure_ (i := 10) (N := some 45) (v := ?_) (a' := ?_) #[true, true, true, true, true, true, true, true, true, true, true] rfl rfl (by kernel_rfl) (fun c a w h => HP.out c a _ _ w h) (Or.inl ⟨by rfl, ?_⟩) ?_ ?_
  rotate_left
  · intro w'
    go_simp
    with_reducible rfl
  rotate_left
  · simp only [Act.put, List.setIfInBounds_toArray, List.set_cons_zero, List.set_cons_succ, i64_w, i32_w]
    rfl
  refine done_ (by kernel_rfl) ?_
  exact HE.out _ _ _ _ _ _ _ _ _ _ _ HW3
end Go.Proofs.YtndelndgioojgaaDoor.Own
namespace Go.Proofs.YtndelndgioojgaaDoor.Own
open Go.RowKit Go.Proofs.YtndelndgioojgaaDoorW.PrintWords Go.Proofs.YtndelndgioojgaaDoorW.PrintLast Go.Proofs.YtndelndgioojgaaDoorW.PrintMore
set_option linter.unusedVariables false
set_option linter.unusedSimpArgs false
theorem strs_inj {a b : List Int} (ha : By a) (hb : By b) : (str a).toList = (str b).toList ↔ a = b := by
  rw [str, str, Lib.strOfNums_toList, Lib.strOfNums_toList]
  constructor
  · intro h
    induction a generalizing b with
    | nil =>
      cases b with
      | nil => rfl
      | cons y b => simp [Lib.bytesOf] at h
    | cons x a ih =>
      cases b with
      | nil => simp [Lib.bytesOf] at h
      | cons y b =>
        have hx := ha x (by simp)
        have hy := hb y (by simp)
        simp only [Lib.bytesOf, List.map_cons, List.cons.injEq] at h
        have h1 := congrArg UInt8.toNat h.1
        simp only [UInt8.toNat_ofNat'] at h1
        have : x = y := by omega
        rw [this, ih (fun z hz => ha z (List.mem_cons_of_mem _ hz)) (fun z hz => hb z (List.mem_cons_of_mem _ hz)) h.2]
  · intro h; rw [h]
theorem strs_beq {a b : List Int} (ha : By a) (hb : By b) : ((str a).toList == (str b).toList) = decide (a = b) := by
  rw [Bool.eq_iff_iff, beq_iff_eq, decide_eq_true_iff]
  exact strs_inj ha hb
def SameRel (w : World) (r1 r2 : List (List Int)) (i : Value) (wr : World) : Prop :=
  ∃ j : Nat, j ≤ r1.length ∧ i = .int .i64 (j : Int) ∧ Hid (r1.take j = r2.take j) ∧ Hid (Below w.heap.size w wr)
theorem take_more {r1 r2 : List (List Int)} {j : Nat} (h : r1.take j = r2.take j) (h1 : j < r1.length) (h2 : j < r2.length) (he : r1.getD j [] = r2.getD j []) : r1.take (j + 1) = r2.take (j + 1) := by
  rw [List.getD_eq_getElem?_getD, List.getElem?_eq_getElem h1, List.getD_eq_getElem?_getD, List.getElem?_eq_getElem h2] at he
  rw [List.take_add_one, List.take_add_one, h, List.getElem?_eq_getElem h1, List.getElem?_eq_getElem h2]
  simp only [Option.getD_some] at he
  rw [he]
theorem getD_mem {r : List (List Int)} {j : Nat} (h : j < r.length) : r.getD j [] ∈ r := by
  rw [List.getD_eq_getElem?_getD, List.getElem?_eq_getElem h]
  exact List.getElem_mem _
set_option maxHeartbeats 4000000 in
set_option maxRecDepth 100000 in
theorem same_any {w0 w : World} {L p S E : Nat} {half frm end_ gen g : Int} {sv rv : Value} {snap snap' : List Int} {recs recs' : List (List Int)} {down : Bool} {A : Option Addr} {rc : Nat}
    (hl : Lm w0 w L p S E half frm end_ gen sv rv snap recs down) (hsl : snap.length ≤ 4194304) (hrl : ∀ r ∈ recs, r.length ≤ 4194304) (hn : recs.length ≤ 1000000) (hn' : recs'.length ≤ 1000000)
    (hb1 : By snap) (hb2 : By snap') (hb3 : ∀ r ∈ recs, By r) (hb4 : ∀ r ∈ recs', By r) (hC : Kd.string.C w A recs'.length (recs'.map str)) (hrc : recs'.length ≤ rc) :
    Calls Tryd.prog 14 #[.agg #[.int .u32 g, .string (str snap'), .slice A recs'.length rc], .pointer (some ⟨L, 0, none⟩)] w fun e w' => e = .returned (.bool (decide (gen = g ∧ snap = snap' ∧ recs = recs'))) ∧ Below w.heap.size w w' := by
  have HL := Lib.hid hl
  have HC := Lib.hid hC
  have HB1 := Lib.hid hb1
  have HB2 := Lib.hid hb2
  have HB3 := Lib.hid hb3
  have HB4 := Lib.hid hb4
  have HRL := Lib.hid hrl
  clear hl hC hb1 hb2 hb3 hb4 hrl
  go_enter Tryd.func14, Tryd.ntmps14
  go_upto_region 1 with (fail)
  have HS : Hid ((w.alloc (.cells #[.int .u32 g, .string (str snap'), .slice A recs'.length rc] 39)).heap[w.heap.size]? = some (.cells #[.int .u32 g, .string (str snap'), .slice A recs'.length rc] 39 (0, 0))) := Lib.hid (alloc_blk _ _ _)
  have HW1 : Hid (Below w.heap.size w (w.alloc (.cells #[.int .u32 g, .string (str snap'), .slice A recs'.length rc] 39))) := Lib.hid below_new_
  obtain ⟨gs, hgs⟩ : ∃ x, x = w.heap.size := ⟨_, rfl⟩
  rw [← hgs] at HS ⊢
  clear hgs
  generalize w.alloc (.cells #[.int .u32 g, .string (str snap'), .slice A recs'.length rc] 39) = w1 at HS HW1 ⊢
  have HRC := Lib.hid (records_any (HL.out.below HW1.out) HRL.out hn)
  go_upto_region 2 with (first | ((with_reducible refine HRC.out.mono ?_); rintro e w2 ⟨v, rfl, hR, hB⟩))
  obtain ⟨vA, vc, rfl, hvc, hvC⟩ := Kd.R_reads hR
  have HVC := Lib.hid hvC
  have HW2 := Lib.hid (HW1.out.trans (hB.mono HW1.out.size))
  have HL2 := Lib.hid (HL.out.below HW2.out)
  have HS2 := Lib.hid (keep_below hB HS.out)
  have hm : ((recs'.map str).length) = recs'.length := List.length_map _
  have HM := Lib.hid hm
  have HSz : Hid (w.heap.size ≤ w2.heap.size) := Lib.hid HW2.out.size
  clear HRC hR hvC hB HS HW1 hm
  by_cases hg : gen = g
  · by_cases hs : snap = snap'
    · by_cases hln : recs.length = recs'.length
      · have h3 : ((recs.length : Int) != ((recs'.map str).length : Int)) = false := by rw [HM.out]; simp [hln]
        have hgb : (gen != g) = false := by simp [hg]
        have hsb : ((str snap).toList == (str snap').toList) = true := by rw [strs_beq HB1.out HB2.out]; simp [hs]
        have HLN := Lib.hid hln
        refine sa2c_wp (rs := recs'.map str) HL2 hsl HS2 rfl rfl (by rw [HM.out]; rfl) hgb hsb h3 (Lib.hid fun c a N v w h => by cases N <;> exact h) (Lib.hid ?_)
        intro d9 d10 d11 d12 d13 d14 d15 d16 d17 d18 d19 d20 d21 d22 d23 d24 d25 d26 d27 d28 w3 HB
        have HW3 := Lib.hid (HW2.out.trans (HB.out.mono HSz.out))
        have HVC3 := Lib.hid (Kd.C_below HVC.out HB.out)
        have HS3 := Lib.hid (keep_below HB.out HS2.out)
        clear HVC HS2 HB HL2 h3 hgb hsb hln
        go_wp2
        go_loopw [32] (fun i' wr => SameRel w3 recs recs' i' wr) (fun i' _ => recs.length - (intOf i').toNat)
        case atStart => exact ⟨0, Nat.zero_le _, rfl, Lib.hid rfl, Lib.hid (Below.refl _ _)⟩
        case round =>
        obtain ⟨j, hj, rfl, HT, HBr⟩ := hrel
        have HWr := Lib.hid (HW3.out.trans (HBr.out.mono HW3.out.size))
        by_cases hlt : j < recs.length
        · have hlt' : j < recs'.length := by have := HLN.out; omega
          obtain ⟨ad, B, cb, rfl, hcell, hcb, hCB⟩ := at_row (Kd.C_below HVC3.out HBr.out) j hlt
          obtain ⟨sd, rfl, hsc⟩ := Kd.at_string (Kd.C_below HC.out HWr.out) (j : Int) (by omega) (by omega)
          have s2 := cell_eq (blk_cell (keep_below HBr.out HS3.out) 2) rfl
          have hjn : ((j : Int)).toNat = j := Int.toNat_natCast j
          rw [hjn] at hsc
          have hrd : rdOf ByteArray.empty (recs'.map str) (j : Int) = str (recs'.getD j []) := by
            unfold rdOf
            rw [hjn, List.getD_eq_getElem?_getD, List.getElem?_map, List.getD_eq_getElem?_getD, List.getElem?_eq_getElem hlt']
            rfl
          rw [hrd] at hsc
          have HCB := Lib.hid hCB
          have hltm : j < (recs'.map str).length := by rw [HM.out]; exact hlt'
          have hbq := strs_beq (HB3.out _ (getD_mem hlt)) (HB4.out _ (getD_mem hlt'))
          clear hjn hrd hCB
          rw [← HM.out] at s2
          by_cases he : recs.getD j [] = recs'.getD j []
          · have HE := Lib.hid he
            rw [decide_eq_true he] at hbq
            clear he
            go_upto_region 7 with (fail)
            refine sa7_wp (A := none) hlt hlt' (Lib.hid hcell) HCB (Lib.hid (keep_below HBr.out HS3.out)) rfl (Lib.hid hsc) hbq (Lib.hid fun c a N v w h => by cases N <;> exact h) (Lib.hid ?_)
            intro d35 d36 d37 d38 d39 d40 d41 d42 d43 d44 w5 HB5
            clear hcell hsc hbq s2
            go_wp2
            go_roundw
            case rel => exact ⟨j + 1, by omega, by go_num, Lib.hid (take_more HT.out hlt hlt' HE.out), Lib.hid (HBr.out.trans (HB5.out.mono HBr.out.size))⟩
            case measure => simp [intOf]; omega
          · have HE := Lib.hid he
            rw [decide_eq_false he] at hbq
            clear he
            go_upto_region 7 with (fail)
            refine sa7_wp (A := none) hlt hlt' (Lib.hid hcell) HCB (Lib.hid (keep_below HBr.out HS3.out)) rfl (Lib.hid hsc) hbq (Lib.hid fun c a N v w h => by cases N <;> exact h) (Lib.hid ?_)
            intro d35 d36 d37 d38 d39 d40 d41 d42 d43 d44 w5 HB5
            clear hcell hsc hbq s2
            go_wp2
            go_ret
            refine ⟨?_, HWr.out.trans (HB5.out.mono HWr.out.size)⟩
            rw [decide_eq_false (fun h => HE.out (by rw [h.2.2]))]
            first | done | rfl
        · go_wp2
          go_ret
          refine ⟨?_, HWr.out⟩
          have ht := HT.out
          rw [List.take_of_length_le (by omega), List.take_of_length_le (by have := HLN.out; omega)] at ht
          rw [decide_eq_true ⟨hg, hs, ht⟩]
          first | done | rfl
      · have h3 : ((recs.length : Int) != ((recs'.map str).length : Int)) = true := by rw [HM.out]; simp; omega
        have hgb : (gen != g) = false := by simp [hg]
        have hsb : ((str snap).toList == (str snap').toList) = true := by rw [strs_beq HB1.out HB2.out]; simp [hs]
        have HLN := Lib.hid hln
        refine sa2c_wp (rs := recs'.map str) HL2 hsl HS2 rfl rfl (by rw [HM.out]; rfl) hgb hsb h3 (Lib.hid fun c a N v w h => by cases N <;> exact h) (Lib.hid ?_)
        intro d9 d10 d11 d12 d13 d14 d15 d16 d17 d18 d19 d20 d21 d22 d23 d24 d25 d26 d27 d28 w3 HB
        clear hln h3 hgb hsb
        go_wp2
        go_ret
        refine ⟨?_, HW2.out.trans (HB.out.mono HSz.out)⟩
        rw [decide_eq_false (fun h => HLN.out (by rw [h.2.2]))]
        first | done | rfl
    · have hgb : (gen != g) = false := by simp [hg]
      have hsb : ((str snap).toList == (str snap').toList) = false := by rw [strs_beq HB1.out HB2.out]; simp [hs]
      have HSN := Lib.hid hs
      refine sa2b_wp (rs := recs'.map str) HL2 hsl HS2 rfl rfl (by rw [HM.out]; rfl) hgb hsb (Lib.hid fun c a N v w h => by cases N <;> exact h) (Lib.hid ?_)
      intro d9 d10 d11 d12 d13 d14 d15 d16 d17 d18 d19 d20 d21 d22 d23 d24 d25 d26 d27 d28 w3 HB
      clear hs hgb hsb
      go_wp2
      go_ret
      refine ⟨?_, HW2.out.trans (HB.out.mono HSz.out)⟩
      rw [decide_eq_false (fun h => HSN.out h.2.1)]
      first | done | rfl
  · have hgb : (gen != g) = true := by simp [hg]
    have HGN := Lib.hid hg
    refine sa2a_wp (rs := recs'.map str) HL2 hsl HS2 rfl rfl (by rw [HM.out]; rfl) hgb (Lib.hid fun c a N v w h => by cases N <;> exact h) (Lib.hid ?_)
    intro d9 d10 d11 d12 d13 d14 d15 d16 d17 d18 d19 d20 d21 d22 d23 d24 d25 d26 d27 d28 w3 HB
    clear hg hgb
    go_wp2
    go_ret
    refine ⟨?_, HW2.out.trans (HB.out.mono HSz.out)⟩
    rw [decide_eq_false (fun h => HGN.out h.1)]
    first | done | rfl
end Go.Proofs.YtndelndgioojgaaDoor.Own
