import Derived.Test.YtndelndgioojgaaDoorWa7
import Derived.Test.YtndelndgioojgaaDoorFr
namespace Go.Proofs.YtndelndgioojgaaDoor.Own
open Go.RowKit Go.Proofs.YtndelndgioojgaaDoorW.PrintWords Go.Proofs.YtndelndgioojgaaDoorW.PrintLast Go.Proofs.YtndelndgioojgaaDoorW.PrintMore
set_option linter.unusedVariables false
set_option linter.unusedSimpArgs false
noncomputable def apC5 : Code := (Tryd.f10.body.bind (regC 5)).getD .skip
set_option maxHeartbeats 4000000 in
set_option maxRecDepth 100000 in
theorem ap5_wp {w0 w : World} {L p S E n : Nat} {half frm end_ gen : Int} {sv rv : Value} {snap : List Int} {recs : List (List Int)} {down : Bool} {d : Dk} {A : Option Addr} {c : Nat} {b : List Int} {Q : Exit → Act → World → Prop} {c2 c3 c4 c5 c6 c7 c8 c9 c10 c11 c12 c13 c14 c15 c16 c17 c18 c19 c20 c21 c22 c23 c24 c25 c26 c27 c28 c29 c30 c31 c32 c33 c34 c35 c36 c37 c38 c39 c40 c41 c42 c43 c44 c45 c46 c47 c48 c49 c50 c51 c52 c53 c54 c55 c56 c57 c58 c59 c60 c61 c62 c63 c64 c65 c66 c67 c68 c69 : Value}
    (HL : Hid (Lm w0 w L p S E half frm end_ gen sv rv snap recs down)) (HD : Hid (Dsk w0 w p S E n d)) (HC : Hid (Kd.C (Kd.int .u8) w A b.length b)) (HT : Hid (Tbl w)) (hc : b.length ≤ c) (hl : b.length ≤ 1048576) (hby : By b) (hg : 1 ≤ gen) (hrl : recs.length ≤ 1000000)
    (HP : Hid (∀ c (a : Act) (N : Option Tmp) (v : Value) (w : World), Q (.panic c) (a.put N v) w → Q (.panic c) a w)) (HE : Hid (∀ (d17 d18 d19 d20 d21 d22 d23 d24 d25 d26 d27 d28 d29 d30 d31 d32 : Value) (Av : Option Addr) (cv : Nat) (w' : World), Hid (Lm w0 w' L p S E half frm end_ gen sv rv snap recs down) → Hid (Dsk w0 w' p S E n d) → Hid (Below w.heap.size w w') → Hid (Kd.R (Kd.int .u8) 5 w' w.heap.size (fun _ => True) (.slice Av (fr gen ((recs.length : Int) + 1) b).length cv) (fr gen ((recs.length : Int) + 1) b)) → Q .normal ⟨#[.pointer (some ⟨L, 0, none⟩), .slice A b.length c, c2, c3, c4, .slice Av (fr gen ((recs.length : Int) + 1) b).length cv, .int .i64 0, c7, c8, c9, c10, c11, c12, c13, c14, c15, c16, d17, d18, d19, d20, d21, d22, d23, d24, d25, d26, d27, d28, d29, d30, d31, d32, c33, c34, c35, c36, c37, c38, c39, c40, c41, c42, c43, c44, c45, c46, c47, c48, c49, c50, c51, c52, c53, c54, c55, c56, c57, c58, c59, c60, c61, c62, c63, c64, c65, c66, c67, c68, c69], []⟩ w')) :
    Code.wp Tryd.prog apC5 Q ⟨#[.pointer (some ⟨L, 0, none⟩), .slice A b.length c, c2, c3, c4, c5, c6, c7, c8, c9, c10, c11, c12, c13, c14, c15, c16, c17, c18, c19, c20, c21, c22, c23, c24, c25, c26, c27, c28, c29, c30, c31, c32, c33, c34, c35, c36, c37, c38, c39, c40, c41, c42, c43, c44, c45, c46, c47, c48, c49, c50, c51, c52, c53, c54, c55, c56, c57, c58, c59, c60, c61, c62, c63, c64, c65, c66, c67, c68, c69], []⟩ w := by
  unfold apC5
  conv => arg 2; whnf
  obtain ⟨rA, rc, rfl, hrc, hrC⟩ := Kd.R_reads HL.out.hr
  clear hrC
  have hw1 : wrap64 ((recs.length : Int) + 1) = (recs.length : Int) + 1 := by unfold wrap64; omega
  have hi1 : IntKind.i64.wrap ((recs.length : Int) + 1) = (recs.length : Int) + 1 := IntWalk.i64_in _ (by omega)
  have hu1 : IntKind.u32.wrap ((recs.length : Int) + 1) = (recs.length : Int) + 1 := by rw [u32_wrap]; omega
  have hu2 : ((recs.length : Int) + 1) % 4294967296 = (recs.length : Int) + 1 := by omega
  refine start_ (n := 18) (S := fun w' => w'.cell? ⟨L, 4, none⟩ = some (.int .u32 gen) ∧ w'.cell? ⟨L, 6, none⟩ = some (.slice rA recs.length rc)) (ds := [12]) #[false, false, false, false, false, false, false, false, false, false, false, false, false, false, false, false, false, false] (by kernel_rfl) rfl rfl ?_ (fun hHeld => ?_)
  · exact ⟨cell_eq (blk_cell (show w.drew.heap[L]? = _ from HL.out.hL) 4) rfl, cell_eq (blk_cell (show w.drew.heap[L]? = _ from HL.out.hL) 6) rfl⟩
  have HL3 := Lib.hid (HL.out.below (w1 := w.drew) (Below.refl _ _).drew)
  have HD3 := Lib.hid (HD.out.below (w1 := w.drew) (Below.refl _ _).drew)
  have HB3 := Lib.hid ((Below.refl w.heap.size w).drew)
  have HC3 := Lib.hid (Kd.C_below HC.out (Below.refl _ w).drew)
  have HT3 := Lib.hid (tbl_drew (w := w) HT.out)
  have HZ3 := Lib.hid (show w.heap.size ≤ w.drew.heap.size from Nat.le_refl _)
  clear HL HD HC HT
  generalize w.drew = w3 at hHeld HL3 HD3 HB3 HC3 HT3 HZ3 ⊢
  refine pure_ (i := 0) (N := some 18) (v := ?_) (a' := ?_) #[true, false, false, false, false, false, false, false, false, false, false, false, false, false, false, false, false, false] rfl rfl (by kernel_rfl) (fun c a w h => HP.out c a _ _ w h) (Or.inl ⟨by rfl, ?_⟩) ?_ ?_
  rotate_left
  · intro w'
    go_simp
    with_reducible rfl
  rotate_left
  · simp only [Act.put, List.setIfInBounds_toArray, List.set_cons_zero, List.set_cons_succ, i64_w, i32_w]
    rfl
  refine pure_ (i := 1) (N := some 19) (v := ?_) (a' := ?_) #[true, true, false, false, false, false, false, false, false, false, false, false, false, false, false, false, false, false] rfl rfl (by kernel_rfl) (fun c a w h => HP.out c a _ _ w h) (Or.inl ⟨by rfl, ?_⟩) ?_ ?_
  rotate_left
  · intro w'
    go_simp
    with_reducible rfl
  rotate_left
  · simp only [Act.put, List.setIfInBounds_toArray, List.set_cons_zero, List.set_cons_succ, i64_w, i32_w]
    rfl
  refine pure_ (i := 2) (N := some 20) (v := ?_) (a' := ?_) #[true, true, true, false, false, false, false, false, false, false, false, false, false, false, false, false, false, false] rfl rfl (by kernel_rfl) (fun c a w h => HP.out c a _ _ w h) (Or.inl ⟨by rfl, ?_⟩) ?_ ?_
  rotate_left
  · intro w'
    go_simp
    with_reducible rfl
  rotate_left
  · simp only [Act.put, List.setIfInBounds_toArray, List.set_cons_zero, List.set_cons_succ, i64_w, i32_w]
    rfl
  refine take_ (i := 3) (N := some 21) (v := ?_) (a' := ?_) #[true, true, true, true, false, false, false, false, false, false, false, false, false, false, false, false, false, false] rfl rfl (by kernel_rfl) (fun c a w h => HP.out c a _ _ w h) (Or.inl ⟨by rfl, ?_⟩) hHeld ?_ ?_
  rotate_left
  · rintro w' ⟨s0, s1⟩
    go_simp
    with_reducible rfl
  rotate_left
  · simp only [Act.put, List.setIfInBounds_toArray, List.set_cons_zero, List.set_cons_succ, i64_w, i32_w]
    rfl
  refine pure_ (i := 4) (N := some 22) (v := ?_) (a' := ?_) #[true, true, true, true, true, false, false, false, false, false, false, false, false, false, false, false, false, false] rfl rfl (by kernel_rfl) (fun c a w h => HP.out c a _ _ w h) (Or.inl ⟨by rfl, ?_⟩) ?_ ?_
  rotate_left
  · intro w'
    go_simp
    with_reducible rfl
  rotate_left
  · simp only [Act.put, List.setIfInBounds_toArray, List.set_cons_zero, List.set_cons_succ, i64_w, i32_w]
    rfl
  refine pure_ (i := 5) (N := some 23) (v := ?_) (a' := ?_) #[true, true, true, true, true, true, false, false, false, false, false, false, false, false, false, false, false, false] rfl rfl (by kernel_rfl) (fun c a w h => HP.out c a _ _ w h) (Or.inl ⟨by rfl, ?_⟩) ?_ ?_
  rotate_left
  · intro w'
    go_simp
    with_reducible rfl
  rotate_left
  · simp only [Act.put, List.setIfInBounds_toArray, List.set_cons_zero, List.set_cons_succ, i64_w, i32_w]
    rfl
  refine pure_ (i := 6) (N := some 24) (v := ?_) (a' := ?_) #[true, true, true, true, true, true, true, false, false, false, false, false, false, false, false, false, false, false] rfl rfl (by kernel_rfl) (fun c a w h => HP.out c a _ _ w h) (Or.inl ⟨by rfl, ?_⟩) ?_ ?_
  rotate_left
  · intro w'
    go_simp
    with_reducible rfl
  rotate_left
  · simp only [Act.put, List.setIfInBounds_toArray, List.set_cons_zero, List.set_cons_succ, i64_w, i32_w]
    rfl
  refine take_ (i := 7) (N := some 25) (v := ?_) (a' := ?_) #[true, true, true, true, true, true, true, true, false, false, false, false, false, false, false, false, false, false] rfl rfl (by kernel_rfl) (fun c a w h => HP.out c a _ _ w h) (Or.inl ⟨by rfl, ?_⟩) hHeld ?_ ?_
  rotate_left
  · rintro w' ⟨s0, s1⟩
    go_simp
    with_reducible rfl
  rotate_left
  · simp only [Act.put, List.setIfInBounds_toArray, List.set_cons_zero, List.set_cons_succ, i64_w, i32_w]
    rfl
  refine pure_ (i := 8) (N := some 26) (v := ?_) (a' := ?_) #[true, true, true, true, true, true, true, true, true, false, false, false, false, false, false, false, false, false] rfl rfl (by kernel_rfl) (fun c a w h => HP.out c a _ _ w h) (Or.inl ⟨by rfl, ?_⟩) ?_ ?_
  rotate_left
  · intro w'
    go_simp
    with_reducible rfl
  rotate_left
  · simp only [Act.put, List.setIfInBounds_toArray, List.set_cons_zero, List.set_cons_succ, i64_w, i32_w]
    rfl
  refine pure_ (i := 9) (N := some 27) (v := ?_) (a' := ?_) #[true, true, true, true, true, true, true, true, true, true, false, false, false, false, false, false, false, false] rfl rfl (by kernel_rfl) (fun c a w h => HP.out c a _ _ w h) (Or.inl ⟨by rfl, ?_⟩) ?_ ?_
  rotate_left
  · intro w'
    go_simp
    with_reducible rfl
  rotate_left
  · simp only [Act.put, List.setIfInBounds_toArray, List.set_cons_zero, List.set_cons_succ, i64_w, i32_w]
    rfl
  refine pure_ (i := 10) (N := some 28) (v := ?_) (a' := ?_) #[true, true, true, true, true, true, true, true, true, true, true, false, false, false, false, false, false, false] rfl rfl (by kernel_rfl) (fun c a w h => HP.out c a _ _ w h) (Or.inl ⟨by rfl, ?_⟩) ?_ ?_
  rotate_left
  · intro w'
    go_simp
    with_reducible rfl
  rotate_left
  · simp only [Act.put, List.setIfInBounds_toArray, List.set_cons_zero, List.set_cons_succ, i64_w, i32_w]
    rfl
  refine pure_ (i := 11) (N := some 29) (v := ?_) (a' := ?_) #[true, true, true, true, true, true, true, true, true, true, true, true, false, false, false, false, false, false] rfl rfl (by kernel_rfl) (fun c a w h => HP.out c a _ _ w h) (Or.inl ⟨by rfl, ?_⟩) ?_ ?_
  rotate_left
  · intro w'
    go_simp
    with_reducible rfl
  rotate_left
  · simp only [Act.put, List.setIfInBounds_toArray, List.set_cons_zero, List.set_cons_succ, i64_w, i32_w]
    rfl
  refine last_ (i := 12) (N := some 30) #[true, true, true, true, true, true, true, true, true, true, true, true, true, false, false, false, false, false] rfl rfl (by kernel_rfl) (by decide) (fun K hK => ?_)
  refine goes_ Tryd.func29 (by kernel_rfl) rfl #[.int .u32 gen, .int .u32 ((recs.length : Int) + 1), .slice A b.length c] (by rfl) rfl rfl (by (try simp only [List.map_toArray, List.map_cons, List.map_nil]); first | done | rfl) ?_
  refine (frame_Put.calls 1 gen ((recs.length : Int) + 1) A c b (fr gen ((recs.length : Int) + 1) b) 0 w3 HC3.out hc ⟨HT3.out⟩ (by rw [Put_f (Nat.le_refl 1) hby, if_neg (by omega)])).mono ?_
  rintro e w4 ⟨vf, rfl, hR, hb⟩
  refine ⟨_, rfl, ?_⟩
  obtain ⟨Av, cv, rfl, _, _⟩ := Kd.R_reads hR
  have HL4 := Lib.hid (HL3.out.below hb)
  have HD4 := Lib.hid (HD3.out.below hb)
  have HB4 := Lib.hid (HB3.out.trans (hb.mono HZ3.out))
  have HR4 := Lib.hid (Kd.R_lower hR HZ3.out)
  refine hK.out _ _ ?_
  clear hK K hR hb
  refine pure_ (i := 13) (N := some 17) (v := ?_) (a' := ?_) #[true, true, true, true, true, true, true, true, true, true, true, true, true, true, false, false, false, false] rfl rfl (by kernel_rfl) (fun c a w h => HP.out c a _ _ w h) (Or.inl ⟨by rfl, ?_⟩) ?_ ?_
  rotate_left
  · intro w'
    go_simp
    with_reducible rfl
  rotate_left
  · simp only [Act.put, List.setIfInBounds_toArray, List.set_cons_zero, List.set_cons_succ, i64_w, i32_w]
    rfl
  refine pure_ (i := 14) (N := some 31) (v := ?_) (a' := ?_) #[true, true, true, true, true, true, true, true, true, true, true, true, true, true, true, false, false, false] rfl rfl (by kernel_rfl) (fun c a w h => HP.out c a _ _ w h) (Or.inl ⟨by rfl, ?_⟩) ?_ ?_
  rotate_left
  · intro w'
    go_simp
    with_reducible rfl
  rotate_left
  · simp only [Act.put, List.setIfInBounds_toArray, List.set_cons_zero, List.set_cons_succ, i64_w, i32_w]
    rfl
  refine pure_ (i := 15) (N := some 32) (v := ?_) (a' := ?_) #[true, true, true, true, true, true, true, true, true, true, true, true, true, true, true, true, false, false] rfl rfl (by kernel_rfl) (fun c a w h => HP.out c a _ _ w h) (Or.inl ⟨by rfl, ?_⟩) ?_ ?_
  rotate_left
  · intro w'
    go_simp
    with_reducible rfl
  rotate_left
  · simp only [Act.put, List.setIfInBounds_toArray, List.set_cons_zero, List.set_cons_succ, i64_w, i32_w]
    rfl
  refine pure_ (i := 16) (N := some 5) (v := ?_) (a' := ?_) #[true, true, true, true, true, true, true, true, true, true, true, true, true, true, true, true, true, false] rfl rfl (by kernel_rfl) (fun c a w h => HP.out c a _ _ w h) (Or.inl ⟨by rfl, ?_⟩) ?_ ?_
  rotate_left
  · intro w'
    go_simp
    with_reducible rfl
  rotate_left
  · simp only [Act.put, List.setIfInBounds_toArray, List.set_cons_zero, List.set_cons_succ, i64_w, i32_w]
    rfl
  refine pure_ (i := 17) (N := some 6) (v := ?_) (a' := ?_) #[true, true, true, true, true, true, true, true, true, true, true, true, true, true, true, true, true, true] rfl rfl (by kernel_rfl) (fun c a w h => HP.out c a _ _ w h) (Or.inl ⟨by rfl, ?_⟩) ?_ ?_
  rotate_left
  · intro w'
    go_simp
    with_reducible rfl
  rotate_left
  · simp only [Act.put, List.setIfInBounds_toArray, List.set_cons_zero, List.set_cons_succ, i64_w, i32_w]
    rfl
  refine done_ (by kernel_rfl) ?_
  exact HE.out _ _ _ _ _ _ _ _ _ _ _ _ _ _ _ _ _ _ _ HL4 HD4 HB4 HR4
noncomputable def apC8 : Code := (Tryd.f10.body.bind (regC 8)).getD .skip
set_option maxHeartbeats 4000000 in
set_option maxRecDepth 100000 in
theorem ap8_wp {w0 w : World} {L p S E n : Nat} {half frm end_ gen : Int} {sv rv : Value} {snap : List Int} {recs : List (List Int)} {down : Bool} {d : Dk} {A : Option Addr} {c : Nat} {b : List Int} {a : Nat} {Q : Exit → Act → World → Prop} {c1 c2 c3 c4 c6 c7 c8 c9 c10 c11 c12 c13 c14 c15 c16 c17 c18 c19 c20 c21 c22 c23 c24 c25 c26 c27 c28 c29 c30 c31 c32 c33 c34 c35 c36 c37 c38 c39 c40 c41 c42 c43 c44 c45 c46 c47 c48 c49 c50 c51 c52 c53 c54 c55 c56 c57 c58 c59 c60 c61 c62 c63 c64 c65 c66 c67 c68 c69 : Value}
    (HL : Hid (Lm w0 w L p S E half frm end_ gen sv rv snap recs down)) (HD : Hid (Dsk w0 w p S E n d)) (HBE : Hid (∀ W, Kept w W (DS p S E) → Kd.C (Kd.int .u8) W A b.length b)) (hc : b.length ≤ c) (hfe : frm + end_ = (a : Int)) (ha : a + b.length ≤ n) (hb0 : 0 < b.length) (hn : n ≤ 4194304)
    (HP : Hid (∀ c (a : Act) (N : Option Tmp) (v : Value) (w : World), Q (.panic c) (a.put N v) w → Q (.panic c) a w)) (HE : Hid (∀ (d35 d36 d37 d38 d39 d40 d41 d42 d43 d44 d45 d46 : Value) (w' : World), Hid (Dsk w0 w' p S E n (d.put a b).1) → Hid (Lm w0 w' L p S E half frm end_ gen sv rv snap recs (down || !(d.put a b).2)) → Hid (Kept w w' (LS L p S E)) → Q .normal ⟨#[.pointer (some ⟨L, 0, none⟩), c1, c2, c3, c4, .slice A b.length c, c6, .int .i64 (if (d.put a b).2 = true then 0 else 12), c8, c9, c10, c11, c12, c13, c14, c15, c16, c17, c18, c19, c20, c21, c22, c23, c24, c25, c26, c27, c28, c29, c30, c31, c32, c33, c34, d35, d36, d37, d38, d39, d40, d41, d42, d43, d44, d45, d46, c47, c48, c49, c50, c51, c52, c53, c54, c55, c56, c57, c58, c59, c60, c61, c62, c63, c64, c65, c66, c67, c68, c69], []⟩ w')) :
    Code.wp Tryd.prog apC8 Q ⟨#[.pointer (some ⟨L, 0, none⟩), c1, c2, c3, c4, .slice A b.length c, c6, c7, c8, c9, c10, c11, c12, c13, c14, c15, c16, c17, c18, c19, c20, c21, c22, c23, c24, c25, c26, c27, c28, c29, c30, c31, c32, c33, c34, c35, c36, c37, c38, c39, c40, c41, c42, c43, c44, c45, c46, c47, c48, c49, c50, c51, c52, c53, c54, c55, c56, c57, c58, c59, c60, c61, c62, c63, c64, c65, c66, c67, c68, c69], []⟩ w := by
  unfold apC8
  conv => arg 2; whnf
  have hw1 : wrap64 (a : Int) = (a : Int) := by unfold wrap64; omega
  have hi1 : IntKind.i64.wrap (a : Int) = (a : Int) := IntWalk.i64_in _ (by omega)
  refine start_ (n := 13) (S := fun w' => w'.cell? ⟨L, 2, none⟩ = some (.int .i64 frm) ∧ w'.cell? ⟨L, 3, none⟩ = some (.int .i64 end_)) (ds := [11]) #[false, false, false, false, false, false, false, false, false, false, false, false, false] (by kernel_rfl) rfl rfl ?_ (fun hHeld => ?_)
  · exact ⟨cell_eq (blk_cell (show w.drew.heap[L]? = _ from HL.out.hL) 2) rfl, cell_eq (blk_cell (show w.drew.heap[L]? = _ from HL.out.hL) 3) rfl⟩
  have HL3 := Lib.hid (HL.out.below (w1 := w.drew) (Below.refl _ _).drew)
  have HD3 := Lib.hid (HD.out.below (w1 := w.drew) (Below.refl _ _).drew)
  have HK3 := Lib.hid ((Kept.refl w (LS L p S E)).drew)
  have HB3 : Hid (∀ W, Kept w.drew W (DS p S E) → Kd.C (Kd.int .u8) W A b.length b) := Lib.hid HBE.out
  clear HL HD HBE
  generalize w.drew = w3 at hHeld HL3 HD3 HK3 HB3 ⊢
  refine pure_ (i := 0) (N := some 35) (v := ?_) (a' := ?_) #[true, false, false, false, false, false, false, false, false, false, false, false, false] rfl rfl (by kernel_rfl) (fun c a w h => HP.out c a _ _ w h) (Or.inl ⟨by rfl, ?_⟩) ?_ ?_
  rotate_left
  · intro w'
    go_simp
    with_reducible rfl
  rotate_left
  · simp only [Act.put, List.setIfInBounds_toArray, List.set_cons_zero, List.set_cons_succ, i64_w, i32_w]
    rfl
  refine pure_ (i := 1) (N := some 36) (v := ?_) (a' := ?_) #[true, true, false, false, false, false, false, false, false, false, false, false, false] rfl rfl (by kernel_rfl) (fun c a w h => HP.out c a _ _ w h) (Or.inl ⟨by rfl, ?_⟩) ?_ ?_
  rotate_left
  · intro w'
    go_simp
    with_reducible rfl
  rotate_left
  · simp only [Act.put, List.setIfInBounds_toArray, List.set_cons_zero, List.set_cons_succ, i64_w, i32_w]
    rfl
  refine pure_ (i := 2) (N := some 37) (v := ?_) (a' := ?_) #[true, true, true, false, false, false, false, false, false, false, false, false, false] rfl rfl (by kernel_rfl) (fun c a w h => HP.out c a _ _ w h) (Or.inl ⟨by rfl, ?_⟩) ?_ ?_
  rotate_left
  · intro w'
    go_simp
    with_reducible rfl
  rotate_left
  · simp only [Act.put, List.setIfInBounds_toArray, List.set_cons_zero, List.set_cons_succ, i64_w, i32_w]
    rfl
  refine pure_ (i := 3) (N := some 38) (v := ?_) (a' := ?_) #[true, true, true, true, false, false, false, false, false, false, false, false, false] rfl rfl (by kernel_rfl) (fun c a w h => HP.out c a _ _ w h) (Or.inl ⟨by rfl, ?_⟩) ?_ ?_
  rotate_left
  · intro w'
    go_simp
    with_reducible rfl
  rotate_left
  · simp only [Act.put, List.setIfInBounds_toArray, List.set_cons_zero, List.set_cons_succ, i64_w, i32_w]
    rfl
  refine take_ (i := 4) (N := some 39) (v := ?_) (a' := ?_) #[true, true, true, true, true, false, false, false, false, false, false, false, false] rfl rfl (by kernel_rfl) (fun c a w h => HP.out c a _ _ w h) (Or.inl ⟨by rfl, ?_⟩) hHeld ?_ ?_
  rotate_left
  · rintro w' ⟨s0, s1⟩
    go_simp
    with_reducible rfl
  rotate_left
  · simp only [Act.put, List.setIfInBounds_toArray, List.set_cons_zero, List.set_cons_succ, i64_w, i32_w]
    rfl
  refine pure_ (i := 5) (N := some 40) (v := ?_) (a' := ?_) #[true, true, true, true, true, true, false, false, false, false, false, false, false] rfl rfl (by kernel_rfl) (fun c a w h => HP.out c a _ _ w h) (Or.inl ⟨by rfl, ?_⟩) ?_ ?_
  rotate_left
  · intro w'
    go_simp
    with_reducible rfl
  rotate_left
  · simp only [Act.put, List.setIfInBounds_toArray, List.set_cons_zero, List.set_cons_succ, i64_w, i32_w]
    rfl
  refine pure_ (i := 6) (N := some 41) (v := ?_) (a' := ?_) #[true, true, true, true, true, true, true, false, false, false, false, false, false] rfl rfl (by kernel_rfl) (fun c a w h => HP.out c a _ _ w h) (Or.inl ⟨by rfl, ?_⟩) ?_ ?_
  rotate_left
  · intro w'
    go_simp
    with_reducible rfl
  rotate_left
  · simp only [Act.put, List.setIfInBounds_toArray, List.set_cons_zero, List.set_cons_succ, i64_w, i32_w]
    rfl
  refine pure_ (i := 7) (N := some 42) (v := ?_) (a' := ?_) #[true, true, true, true, true, true, true, true, false, false, false, false, false] rfl rfl (by kernel_rfl) (fun c a w h => HP.out c a _ _ w h) (Or.inl ⟨by rfl, ?_⟩) ?_ ?_
  rotate_left
  · intro w'
    go_simp
    with_reducible rfl
  rotate_left
  · simp only [Act.put, List.setIfInBounds_toArray, List.set_cons_zero, List.set_cons_succ, i64_w, i32_w]
    rfl
  refine take_ (i := 8) (N := some 43) (v := ?_) (a' := ?_) #[true, true, true, true, true, true, true, true, true, false, false, false, false] rfl rfl (by kernel_rfl) (fun c a w h => HP.out c a _ _ w h) (Or.inl ⟨by rfl, ?_⟩) hHeld ?_ ?_
  rotate_left
  · rintro w' ⟨s0, s1⟩
    go_simp
    with_reducible rfl
  rotate_left
  · simp only [Act.put, List.setIfInBounds_toArray, List.set_cons_zero, List.set_cons_succ, i64_w, i32_w]
    rfl
  refine pure_ (i := 9) (N := some 44) (v := ?_) (a' := ?_) #[true, true, true, true, true, true, true, true, true, true, false, false, false] rfl rfl (by kernel_rfl) (fun c a w h => HP.out c a _ _ w h) (Or.inl ⟨by rfl, ?_⟩) ?_ ?_
  rotate_left
  · intro w'
    go_simp
    with_reducible rfl
  rotate_left
  · simp only [Act.put, List.setIfInBounds_toArray, List.set_cons_zero, List.set_cons_succ, i64_w, i32_w]
    rfl
  refine pure_ (i := 10) (N := some 45) (v := ?_) (a' := ?_) #[true, true, true, true, true, true, true, true, true, true, true, false, false] rfl rfl (by kernel_rfl) (fun c a w h => HP.out c a _ _ w h) (Or.inl ⟨by rfl, ?_⟩) ?_ ?_
  rotate_left
  · intro w'
    go_simp
    with_reducible rfl
  rotate_left
  · simp only [Act.put, List.setIfInBounds_toArray, List.set_cons_zero, List.set_cons_succ, i64_w, i32_w]
    rfl
  refine last_ (i := 11) (N := some 46) #[true, true, true, true, true, true, true, true, true, true, true, true, false] rfl rfl (by kernel_rfl) (by decide) (fun K hK => ?_)
  refine goes_ Tryd.func27 (by kernel_rfl) rfl #[.pointer (some ⟨L, 0, none⟩), .int .i64 (a : Int), .slice A b.length c] (by rfl) rfl rfl (by (try simp only [List.map_toArray, List.map_cons, List.map_nil]); first | done | rfl) ?_
  refine (writes_any HL3.out HD3.out HB3.out hc ha hb0).mono ?_
  rintro e w4 ⟨rfl, hd4, hl4, hk4⟩
  refine ⟨_, rfl, ?_⟩
  have HL4 := Lib.hid hl4
  have HD4 := Lib.hid hd4
  have HK4 := Lib.hid (HK3.out.then_ hk4 (fun k hk => .inl hk))
  refine hK.out _ _ ?_
  clear hK K hl4 hd4 hk4
  refine pure_ (i := 12) (N := some 7) (v := ?_) (a' := ?_) #[true, true, true, true, true, true, true, true, true, true, true, true, true] rfl rfl (by kernel_rfl) (fun c a w h => HP.out c a _ _ w h) (Or.inl ⟨by rfl, ?_⟩) ?_ ?_
  rotate_left
  · intro w'
    go_simp
    with_reducible rfl
  rotate_left
  · simp only [Act.put, List.setIfInBounds_toArray, List.set_cons_zero, List.set_cons_succ, i64_w, i32_w]
    rfl
  refine done_ (by kernel_rfl) ?_
  exact HE.out _ _ _ _ _ _ _ _ _ _ _ _ _ HD4 HL4 HK4
/-- What an Append writes of a log's own. -/
def RS (L : Nat) (rv : Value) (k : Nat) : Prop := k = L ∨ some k = rv.ownBlock
theorem info23_ : (Tryd.prog.info? 23).map (fun i => (i.zero, i.size, i.bytes)) = some (some (.slice none 0 0), (Kd.slice 5 (Kd.int .u8)).sz, 24) := by kernel_rfl
theorem own_lt' {α : Type} {k : Kd α} {e base j : Nat} {ok : Nat → Prop} {w : World} {v : Value} {xs : List α} (h : k.R e w base ok v xs) (hj : v.ownBlock = some j) : j < w.heap.size := by
  obtain ⟨inn, ho, _⟩ := h.2
  exact own_lt ho j hj
theorem row_ne {w : World} {b1 b2 n1 : Nat} {v1 v2 : Value} {xs1 : List Value} {ok : Nat → Prop} {xs2 : List Int} {sz : Nat} (h1 : w.ownsRow b1 23 sz v1 n1 xs1) (h2 : Kd.R (Kd.int .u8) 5 w b2 ok v2 xs2) : ∀ k, v1.ownBlock = some k → some k ≠ v2.ownBlock := by
  intro k e hv
  obtain ⟨c1, e1⟩ := own_typed h1 k e
  obtain ⟨c2, e2⟩ := own_typed (Kd.own_of_R h2) k hv.symm
  rw [e1] at e2
  simp at e2
noncomputable def apC12 : Code := (Tryd.f10.body.bind (regC 12)).getD .skip
set_option maxHeartbeats 4000000 in
set_option maxRecDepth 100000 in
theorem ap12_wp {w0 w : World} {L p S E n : Nat} {half frm end_ gen : Int} {sv rv : Value} {snap : List Int} {recs : List (List Int)} {down : Bool} {d : Dk} {A : Option Addr} {c : Nat} {b : List Int} {Q : Exit → Act → World → Prop} {c2 c3 c4 c5 c6 c7 c8 c9 c10 c11 c12 c13 c14 c15 c16 c17 c18 c19 c20 c21 c22 c23 c24 c25 c26 c27 c28 c29 c30 c31 c32 c33 c34 c35 c36 c37 c38 c39 c40 c41 c42 c43 c44 c45 c46 c47 c48 c49 c50 c51 c52 c53 c54 c55 c56 c57 c58 c59 c60 c61 c62 c63 c64 c65 c66 c67 c68 c69 : Value}
    (HL : Hid (Lm w0 w L p S E half frm end_ gen sv rv snap recs down)) (HD : Hid (Dsk w0 w p S E n d)) (HC : Hid (Kd.C (Kd.int .u8) w A b.length b)) (hc : b.length ≤ c) (hl : b.length ≤ 1048576) (hrl : recs.length ≤ 1000000)
    (HP : Hid (∀ c (a : Act) (N : Option Tmp) (v : Value) (w : World), Q (.panic c) (a.put N v) w → Q (.panic c) a w)) (HE : Hid (∀ (d59 d60 d61 d62 d63 d64 d65 d66 d67 d68 d69 : Value) (rv' : Value) (w' : World), Hid (Lm w0 w' L p S E half frm end_ gen sv rv' snap (recs ++ [b]) down) → Hid (Dsk w0 w' p S E n d) → Hid (Kept w w' (RS L rv)) → Q .normal ⟨#[.pointer (some ⟨L, 0, none⟩), .slice A b.length c, c2, c3, c4, c5, c6, c7, c8, c9, c10, c11, c12, c13, c14, c15, c16, c17, c18, c19, c20, c21, c22, c23, c24, c25, c26, c27, c28, c29, c30, c31, c32, c33, c34, c35, c36, c37, c38, c39, c40, c41, c42, c43, c44, c45, c46, c47, c48, c49, c50, c51, c52, c53, c54, c55, c56, c57, c58, d59, d60, d61, d62, d63, d64, d65, d66, d67, d68, d69], []⟩ w')) :
    Code.wp Tryd.prog apC12 Q ⟨#[.pointer (some ⟨L, 0, none⟩), .slice A b.length c, c2, c3, c4, c5, c6, c7, c8, c9, c10, c11, c12, c13, c14, c15, c16, c17, c18, c19, c20, c21, c22, c23, c24, c25, c26, c27, c28, c29, c30, c31, c32, c33, c34, c35, c36, c37, c38, c39, c40, c41, c42, c43, c44, c45, c46, c47, c48, c49, c50, c51, c52, c53, c54, c55, c56, c57, c58, c59, c60, c61, c62, c63, c64, c65, c66, c67, c68, c69], []⟩ w := by
  unfold apC12
  conv => arg 2; whnf
  obtain ⟨rA, rc, rfl, hrc, hrC⟩ := Kd.R_reads HL.out.hr
  clear hrC
  refine start_ (n := 12) (S := fun w' => w'.cell? ⟨L, 6, none⟩ = some (.slice rA recs.length rc)) (ds := [11]) #[false, false, false, false, false, false, false, false, false, false, false, false] (by kernel_rfl) rfl rfl ?_ (fun hHeld => ?_)
  · exact cell_eq (blk_cell (show w.drew.heap[L]? = _ from HL.out.hL) 6) rfl
  have HL3 := Lib.hid (HL.out.below (w1 := w.drew) (Below.refl _ _).drew)
  have HD3 := Lib.hid (HD.out.below (w1 := w.drew) (Below.refl _ _).drew)
  have HK3 := Lib.hid ((Kept.refl w (RS L (.slice rA recs.length rc))).drew)
  have HC3 := Lib.hid (Kd.C_below HC.out (Below.refl _ w).drew)
  clear HL HD HC
  generalize w.drew = w3 at hHeld HL3 HD3 HK3 HC3 ⊢
  refine pure_ (i := 0) (N := some 59) (v := ?_) (a' := ?_) #[true, false, false, false, false, false, false, false, false, false, false, false] rfl rfl (by kernel_rfl) (fun c a w h => HP.out c a _ _ w h) (Or.inl ⟨by rfl, ?_⟩) ?_ ?_
  rotate_left
  · intro w'
    go_simp
    with_reducible rfl
  rotate_left
  · simp only [Act.put, List.setIfInBounds_toArray, List.set_cons_zero, List.set_cons_succ, i64_w, i32_w]
    rfl
  refine pure_ (i := 1) (N := some 60) (v := ?_) (a' := ?_) #[true, true, false, false, false, false, false, false, false, false, false, false] rfl rfl (by kernel_rfl) (fun c a w h => HP.out c a _ _ w h) (Or.inl ⟨by rfl, ?_⟩) ?_ ?_
  rotate_left
  · intro w'
    go_simp
    with_reducible rfl
  rotate_left
  · simp only [Act.put, List.setIfInBounds_toArray, List.set_cons_zero, List.set_cons_succ, i64_w, i32_w]
    rfl
  refine pure_ (i := 2) (N := some 61) (v := ?_) (a' := ?_) #[true, true, true, false, false, false, false, false, false, false, false, false] rfl rfl (by kernel_rfl) (fun c a w h => HP.out c a _ _ w h) (Or.inl ⟨by rfl, ?_⟩) ?_ ?_
  rotate_left
  · intro w'
    go_simp
    with_reducible rfl
  rotate_left
  · simp only [Act.put, List.setIfInBounds_toArray, List.set_cons_zero, List.set_cons_succ, i64_w, i32_w]
    rfl
  refine pure_ (i := 3) (N := some 62) (v := ?_) (a' := ?_) #[true, true, true, true, false, false, false, false, false, false, false, false] rfl rfl (by kernel_rfl) (fun c a w h => HP.out c a _ _ w h) (Or.inl ⟨by rfl, ?_⟩) ?_ ?_
  rotate_left
  · intro w'
    go_simp
    with_reducible rfl
  rotate_left
  · simp only [Act.put, List.setIfInBounds_toArray, List.set_cons_zero, List.set_cons_succ, i64_w, i32_w]
    rfl
  refine take_ (i := 4) (N := some 63) (v := ?_) (a' := ?_) #[true, true, true, true, true, false, false, false, false, false, false, false] rfl rfl (by kernel_rfl) (fun c a w h => HP.out c a _ _ w h) (Or.inl ⟨by rfl, ?_⟩) hHeld ?_ ?_
  rotate_left
  · intro w' s0
    go_simp
    with_reducible rfl
  rotate_left
  · simp only [Act.put, List.setIfInBounds_toArray, List.set_cons_zero, List.set_cons_succ, i64_w, i32_w]
    rfl
  refine pure_ (i := 5) (N := some 64) (v := ?_) (a' := ?_) #[true, true, true, true, true, true, false, false, false, false, false, false] rfl rfl (by kernel_rfl) (fun c a w h => HP.out c a _ _ w h) (Or.inl ⟨by rfl, ?_⟩) ?_ ?_
  rotate_left
  · intro w'
    go_simp
    with_reducible rfl
  rotate_left
  · simp only [Act.put, List.setIfInBounds_toArray, List.set_cons_zero, List.set_cons_succ, i64_w, i32_w]
    rfl
  refine one_ (i := 6) (N := some 65) #[true, true, true, true, true, true, true, false, false, false, false, false] rfl rfl (by kernel_rfl) (by decide) (fun K hK => ?_)
  refine goes_ Tryd.func30 (by kernel_rfl) rfl #[.slice A b.length c] (by rfl) rfl rfl (by (try simp only [List.map_toArray, List.map_cons, List.map_nil]); first | done | rfl) ?_
  refine (slices_Clone_byte_byte.calls A c b b w3 HC3.out hc (clone_bytes (by omega))).mono ?_
  rintro e w4 ⟨vb, rfl, hR, hb⟩
  refine ⟨_, rfl, ?_⟩
  obtain ⟨Av, cv, rfl, _, _⟩ := Kd.R_reads hR
  have HL4 := Lib.hid (HL3.out.below hb)
  have HD4 := Lib.hid (HD3.out.below hb)
  have HK4 := Lib.hid (HK3.out.below hb)
  have HV4 : Hid (Kd.R (Kd.int .u8) 5 w4 w0.heap.size (fun k => (k ≠ S ∧ k ≠ E) ∧ some k ≠ (Value.slice rA recs.length rc).ownBlock) (.slice Av b.length cv) b) := Lib.hid (Kd.R_lower (Kd.R_mono (Kd.R_bound hR) (fun k hk => by
    have h1 := heap_lt HD3.out.m.hS
    have h2 := heap_lt HD3.out.m.hE
    have h3 := hk.2.1
    refine ⟨by omega, fun e => ?_⟩
    have := own_lt' HL3.out.hr e.symm
    omega)) HD3.out.m.hb.size)
  refine hK.out _ _ (cell_eq (blk_cell HL4.out.hL 6) rfl) (fun hHeld => ?_)
  clear hK K hR hb HL3 HD3 HK3 HC3
  refine one_ (i := 7) (N := some 66) #[true, true, true, true, true, true, true, true, false, false, false, false] rfl rfl (by kernel_rfl) (by decide) (fun K hK => ?_)
  refine runs_ (by rfl) rfl (v := .slice (some ⟨w4.heap.size, 0, none⟩) 1 1) (w1 := w4.alloc (.cells #[.slice Av b.length cv] 23)) ?_ ?_
  · go_simp
  refine hK.out _ _ (cell_eq (blk_cell (HL4.out.below (w1 := w4.alloc (.cells #[.slice Av b.length cv] 23)) below_new_).hL 6) rfl) (fun hHeld => ?_)
  clear hK K
  refine one_ (i := 8) (N := some 67) #[true, true, true, true, true, true, true, true, true, false, false, false] rfl rfl (by kernel_rfl) (by decide) (fun K hK => ?_)
  refine Kd.R_append_step (W := w4) (w0 := w0) (Kd.slice 5 (Kd.int .u8)) w0.heap.size (by rfl) (.tmp 63) (.tmp 66) 36 23 (.slice none 0 0) 24 rfl Tryd.underlying36 info23_ rfl (by decide) (by decide) (.slice rA recs.length rc) recs b [.slice Av b.length cv] (fun k => k ≠ S ∧ k ≠ E) (fun k => (k ≠ S ∧ k ≠ E) ∧ some k ≠ (Value.slice rA recs.length rc).ownBlock) rfl rfl ⟨_, rfl, HV4.out⟩ (fun _ h => h) (fun k hk => by have h1 := heap_lt HD4.out.m.hS; have h2 := heap_lt HD4.out.m.hE; omega) HL4.out.hr HD4.out.m.hb HD4.out.m.hb.size (by omega) ?_
  intro v1 w5 hR5 hb5 hg5 hat5
  obtain ⟨A1, c1, rfl, _, _⟩ := Kd.R_reads hR5
  obtain ⟨inn, hown, _⟩ := HL4.out.hr.2
  have HL5 : Hid (Lm w0 w5 L p S E half frm end_ gen sv (.slice rA recs.length rc) snap recs down ∨ True) := Lib.hid (.inr trivial)
  have HLb : Hid (w5.heap[L]? = some (.cells #[.pointer (some ⟨p, 0, none⟩), .int .i64 half, .int .i64 frm, .int .i64 end_, .int .u32 gen, sv, .slice rA recs.length rc, .bool down] 56 (0, 0))) := Lib.hid ((hg5.block L (heap_lt HL4.out.hL) (own_ne hown HL4.out.hL (by decide))).trans HL4.out.hL)
  have HSn := Lib.hid (Kd.R_grown2 HL4.out.hs rfl hg5 (row_ne hown HL4.out.hs))
  have HRr := Lib.hid hR5
  have HD5 : Hid (Dsk w0 w5 p S E n d) := Lib.hid ⟨⟨(hg5.block p (heap_lt HD4.out.m.hp) (own_ne hown HD4.out.m.hp (by decide))).trans HD4.out.m.hp, (hg5.block S (heap_lt HD4.out.m.hS) (own_ne hown HD4.out.m.hS (by decide))).trans HD4.out.m.hS, (hg5.block E (heap_lt HD4.out.m.hE) (own_ne hown HD4.out.m.hE (by decide))).trans HD4.out.m.hE, HD4.out.m.lS, HD4.out.m.lE, hb5, HD4.out.m.np, HD4.out.m.nS, HD4.out.m.nE, HD4.out.m.SE, HD4.out.m.hn⟩, HD4.out.f1, HD4.out.f2⟩
  have HK5 := Lib.hid (Kept.of_grown hg5 HK4.out (fun k hk => .inl (.inr hk.symm)))
  have HnL := Lib.hid HL4.out.nL
  clear hR5 hb5 hg5 hat5 hown HL5 HL4 HD4 HK4 HV4
  refine hK.out _ _ (cell_eq (blk_cell HLb.out 6) rfl) (fun hHeld => ?_)
  clear hK K
  refine pure_ (i := 9) (N := some 68) (v := ?_) (a' := ?_) #[true, true, true, true, true, true, true, true, true, true, false, false] rfl rfl (by kernel_rfl) (fun c a w h => HP.out c a _ _ w h) (Or.inl ⟨by rfl, ?_⟩) ?_ ?_
  rotate_left
  · intro w'
    go_simp
    with_reducible rfl
  rotate_left
  · simp only [Act.put, List.setIfInBounds_toArray, List.set_cons_zero, List.set_cons_succ, i64_w, i32_w]
    rfl
  refine pure_ (i := 10) (N := some 69) (v := ?_) (a' := ?_) #[true, true, true, true, true, true, true, true, true, true, true, false] rfl rfl (by kernel_rfl) (fun c a w h => HP.out c a _ _ w h) (Or.inl ⟨by rfl, ?_⟩) ?_ ?_
  rotate_left
  · intro w'
    go_simp
    with_reducible rfl
  rotate_left
  · simp only [Act.put, List.setIfInBounds_toArray, List.set_cons_zero, List.set_cons_succ, i64_w, i32_w]
    rfl
  refine last_ (i := 11) (N := none) #[true, true, true, true, true, true, true, true, true, true, true, true] rfl rfl (by kernel_rfl) (by decide) (fun K hK => ?_)
  have hcp := cell_eq (blk_cell HLb.out 6) rfl
  have hfp := blk_frozen HLb.out 6
  refine skip_ (w1 := w5.setCell ⟨L, 6, none⟩ (.slice A1 (recs ++ [b]).length c1)) (by rfl) rfl ?_ ?_
  · go_simp
  refine hK.out _ _ ?_
  clear hK K
  refine done_ (by kernel_rfl) ?_
  refine HE.out _ _ _ _ _ _ _ _ _ _ _ _ _ (Lib.hid ⟨?_, R_setL HSn.out HLb.out no56a, R_setL HRr.out HLb.out no56b, HnL.out⟩) (Lib.hid (HD5.out.setL HLb.out HnL.out _ _)) (Lib.hid (HK5.out.setCell (.inl (.inl rfl)) _))
  simpa using Go.Joins.block_setCell HLb.out (i := 6) (.slice A1 (recs ++ [b]).length c1)
end Go.Proofs.YtndelndgioojgaaDoor.Own
