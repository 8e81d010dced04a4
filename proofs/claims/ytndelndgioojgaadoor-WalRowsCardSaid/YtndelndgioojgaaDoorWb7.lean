import Derived.Test.YtndelndgioojgaaDoorWb6
namespace Go.Proofs.YtndelndgioojgaaDoor.Own
open Go.RowKit Go.Proofs.YtndelndgioojgaaDoorW.PrintWords Go.Proofs.YtndelndgioojgaaDoorW.PrintLast Go.Proofs.YtndelndgioojgaaDoorW.PrintMore
set_option linter.unusedVariables false
set_option linter.unusedSimpArgs false
theorem kt_L {w0 w w1 : World} {L p S E : Nat} {half frm end_ gen : Int} {sv rv : Value} {snap : List Int} {recs : List (List Int)} {down : Bool} (h : Lm w0 w L p S E half frm end_ gen sv rv snap recs down) (hk : Kept w w1 (fun k => k = L)) : KT L w w1 :=
  hk.mono (fun k hk => by subst hk; exact ⟨Nat.le_refl _, _, 56, h.hL, .inr rfl⟩)
noncomputable def opC8 : Code := (Tryd.f8.body.bind (regC 8)).getD .skip
set_option maxHeartbeats 4000000 in
set_option maxRecDepth 100000 in
theorem op8_wp {w0 w : World} {L p S E n hN : Nat} {frm end_ gen : Int} {sv rv : Value} {snap : List Int} {recs : List (List Int)} {down : Bool} {d : Dk} {ad : Addr} {c : Nat} {b : List Int} {Q : Exit → Act → World → Prop} {c0 c1 c2 c3 c6 c7 c8 c9 c10 c11 c12 c13 c14 c15 c16 c17 c18 c19 c20 c21 c22 c23 c24 c25 c26 c27 c28 c29 c30 c31 c32 c33 c34 c35 c36 c37 c38 c39 c40 c41 c42 c43 c44 c45 c46 c47 c48 c49 c50 c51 c52 c53 c54 c55 c56 c57 c58 c59 c60 c61 c62 c63 c64 c65 c66 c67 c68 c69 c70 c71 c72 c73 c74 c75 c76 c77 c78 c79 c80 c81 c82 c83 c84 c85 c86 c87 c88 c89 c90 c91 c92 c93 c94 c95 c96 c97 c98 c99 c100 c101 c102 c103 c104 c105 c106 c107 c108 c109 c110 c111 c112 c113 c114 c115 c116 c117 c118 c119 c120 c121 c122 c123 c124 c125 : Value}
    (HL : Hid (Lm w0 w L p S E (hN : Int) frm end_ gen sv rv snap recs down)) (HD : Hid (Dsk w0 w p S E n d)) (HC : Hid (Kd.C (Kd.int .u8) w (some ad) b.length b)) (HT : Hid (Tbl w0)) (hc : b.length ≤ c) (hcm : c ≤ 9223372036854775807) (hb2 : b.length = 2 * hN) (hh : 64 ≤ hN) (hh2 : hN ≤ 1000000) (hby : By b)
    (HP : Hid (∀ c (a : Act) (N : Option Tmp) (v : Value) (w : World), Q (.panic c) (a.put N v) w → Q (.panic c) a w)) (HE : Hid (∀ (d46 d47 d48 d49 d50 d51 d52 d53 d54 d55 d56 d57 : Value) (sv' : Value) (w' : World), Hid (LM w0 w' L p S E (Lg.looks ⟨(hN : Int), frm, end_, gen, snap, recs, down⟩ (b.drop hN) hN) sv' rv) → Hid (Dsk w0 w' p S E n d) → Hid (KT L w w') → Q .normal ⟨#[c0, c1, c2, c3, .pointer (some ⟨L, 0, none⟩), .slice (some ad) b.length c, c6, c7, c8, c9, c10, c11, c12, c13, c14, c15, c16, c17, c18, c19, c20, c21, c22, c23, c24, c25, c26, c27, c28, c29, c30, c31, c32, c33, c34, c35, c36, c37, c38, c39, c40, c41, c42, c43, c44, c45, d46, d47, d48, d49, d50, d51, d52, d53, d54, d55, d56, d57, c58, c59, c60, c61, c62, c63, c64, c65, c66, c67, c68, c69, c70, c71, c72, c73, c74, c75, c76, c77, c78, c79, c80, c81, c82, c83, c84, c85, c86, c87, c88, c89, c90, c91, c92, c93, c94, c95, c96, c97, c98, c99, c100, c101, c102, c103, c104, c105, c106, c107, c108, c109, c110, c111, c112, c113, c114, c115, c116, c117, c118, c119, c120, c121, c122, c123, c124, c125], []⟩ w')) :
    Code.wp Tryd.prog opC8 Q ⟨#[c0, c1, c2, c3, .pointer (some ⟨L, 0, none⟩), .slice (some ad) b.length c, c6, c7, c8, c9, c10, c11, c12, c13, c14, c15, c16, c17, c18, c19, c20, c21, c22, c23, c24, c25, c26, c27, c28, c29, c30, c31, c32, c33, c34, c35, c36, c37, c38, c39, c40, c41, c42, c43, c44, c45, c46, c47, c48, c49, c50, c51, c52, c53, c54, c55, c56, c57, c58, c59, c60, c61, c62, c63, c64, c65, c66, c67, c68, c69, c70, c71, c72, c73, c74, c75, c76, c77, c78, c79, c80, c81, c82, c83, c84, c85, c86, c87, c88, c89, c90, c91, c92, c93, c94, c95, c96, c97, c98, c99, c100, c101, c102, c103, c104, c105, c106, c107, c108, c109, c110, c111, c112, c113, c114, c115, c116, c117, c118, c119, c120, c121, c122, c123, c124, c125], []⟩ w := by
  unfold opC8
  conv => arg 2; whnf
  have hcd := Kd.C_drop HC.out (show hN ≤ b.length by omega) hc
  rw [if_neg (show ¬ c = hN by omega), Option.map_some, show (Kd.int .u8).sz = 1 from rfl, Nat.mul_one] at hcd
  have hdl : (b.drop hN).length = b.length - hN := List.length_drop
  have HCD := Lib.hid hcd
  have HDL := Lib.hid hdl
  have hne : ¬ c = hN := by omega
  have he1 : (hN : Int) ≤ (b.length : Int) := by omega
  have hb3 : b.length ≤ 2000000 := by omega
  have HB2 := Lib.hid hb2
  clear hcd hdl hb2
  refine start_ (n := 12) (S := fun w' => w'.cell? ⟨L, 1, none⟩ = some (.int .i64 (hN : Int))) (ds := [11]) #[false, false, false, false, false, false, false, false, false, false, false, false] (by kernel_rfl) rfl rfl ?_ (fun hHeld => ?_)
  · exact cell_eq (blk_cell (show w.drew.heap[L]? = _ from HL.out.hL) 1) rfl
  have HL3 := Lib.hid (HL.out.below (w1 := w.drew) (Below.refl _ _).drew)
  have HD3 := Lib.hid (HD.out.below (w1 := w.drew) (Below.refl _ _).drew)
  have HK3 := Lib.hid (KT.below (KT.refl L w) (w2 := w.drew) (Below.refl _ _).drew)
  have HC3 := Lib.hid (Kd.C_below HCD.out (Below.refl _ w).drew)
  clear HL HD HC HCD
  generalize w.drew = w3 at hHeld HL3 HD3 HK3 HC3 ⊢
  refine pure_ (i := 0) (N := some 46) (v := ?_) (a' := ?_) #[true, false, false, false, false, false, false, false, false, false, false, false] rfl rfl (by kernel_rfl) (fun c a w h => HP.out c a _ _ w h) (Or.inl ⟨by rfl, ?_⟩) ?_ ?_
  rotate_left
  · intro w'
    go_simp
    with_reducible rfl
  rotate_left
  · simp only [Act.put, List.setIfInBounds_toArray, List.set_cons_zero, List.set_cons_succ, i64_w, i32_w]
    rfl
  refine pure_ (i := 1) (N := some 47) (v := ?_) (a' := ?_) #[true, true, false, false, false, false, false, false, false, false, false, false] rfl rfl (by kernel_rfl) (fun c a w h => HP.out c a _ _ w h) (Or.inl ⟨by rfl, ?_⟩) ?_ ?_
  rotate_left
  · intro w'
    go_simp
    with_reducible rfl
  rotate_left
  · simp only [Act.put, List.setIfInBounds_toArray, List.set_cons_zero, List.set_cons_succ, i64_w, i32_w]
    rfl
  refine pure_ (i := 2) (N := some 48) (v := ?_) (a' := ?_) #[true, true, true, false, false, false, false, false, false, false, false, false] rfl rfl (by kernel_rfl) (fun c a w h => HP.out c a _ _ w h) (Or.inl ⟨by rfl, ?_⟩) ?_ ?_
  rotate_left
  · intro w'
    go_simp
    with_reducible rfl
  rotate_left
  · simp only [Act.put, List.setIfInBounds_toArray, List.set_cons_zero, List.set_cons_succ, i64_w, i32_w]
    rfl
  refine pure_ (i := 3) (N := some 49) (v := ?_) (a' := ?_) #[true, true, true, true, false, false, false, false, false, false, false, false] rfl rfl (by kernel_rfl) (fun c a w h => HP.out c a _ _ w h) (Or.inl ⟨by rfl, ?_⟩) ?_ ?_
  rotate_left
  · intro w'
    go_simp
    with_reducible rfl
  rotate_left
  · simp only [Act.put, List.setIfInBounds_toArray, List.set_cons_zero, List.set_cons_succ, i64_w, i32_w]
    rfl
  refine pure_ (i := 4) (N := some 50) (v := ?_) (a' := ?_) #[true, true, true, true, true, false, false, false, false, false, false, false] rfl rfl (by kernel_rfl) (fun c a w h => HP.out c a _ _ w h) (Or.inl ⟨by rfl, ?_⟩) ?_ ?_
  rotate_left
  · intro w'
    go_simp
    with_reducible rfl
  rotate_left
  · simp only [Act.put, List.setIfInBounds_toArray, List.set_cons_zero, List.set_cons_succ, i64_w, i32_w]
    rfl
  refine take_ (i := 5) (N := some 51) (v := ?_) (a' := ?_) #[true, true, true, true, true, true, false, false, false, false, false, false] rfl rfl (by kernel_rfl) (fun c a w h => HP.out c a _ _ w h) (Or.inl ⟨by rfl, ?_⟩) hHeld ?_ ?_
  rotate_left
  · intro w' s0
    go_simp
    with_reducible rfl
  rotate_left
  · simp only [Act.put, List.setIfInBounds_toArray, List.set_cons_zero, List.set_cons_succ, i64_w, i32_w]
    rfl
  refine pure_ (i := 6) (N := some 52) (v := ?_) (a' := ?_) #[true, true, true, true, true, true, true, false, false, false, false, false] rfl rfl (by kernel_rfl) (fun c a w h => HP.out c a _ _ w h) (Or.inl ⟨by rfl, ?_⟩) ?_ ?_
  rotate_left
  · intro w'
    go_simp
    with_reducible rfl
  rotate_left
  · simp only [Act.put, List.setIfInBounds_toArray, List.set_cons_zero, List.set_cons_succ, i64_w, i32_w]
    rfl
  refine pure_ (i := 7) (N := some 53) (v := ?_) (a' := ?_) #[true, true, true, true, true, true, true, true, false, false, false, false] rfl rfl (by kernel_rfl) (fun c a w h => HP.out c a _ _ w h) (Or.inl ⟨by rfl, ?_⟩) ?_ ?_
  rotate_left
  · intro w'
    go_simp
    with_reducible rfl
  rotate_left
  · simp only [Act.put, List.setIfInBounds_toArray, List.set_cons_zero, List.set_cons_succ, i64_w, i32_w]
    rfl
  refine pure_ (i := 8) (N := some 54) (v := ?_) (a' := ?_) #[true, true, true, true, true, true, true, true, true, false, false, false] rfl rfl (by kernel_rfl) (fun c a w h => HP.out c a _ _ w h) (Or.inl ⟨by rfl, ?_⟩) ?_ ?_
  rotate_left
  · intro w'
    go_simp
    with_reducible rfl
  rotate_left
  · simp only [Act.put, List.setIfInBounds_toArray, List.set_cons_zero, List.set_cons_succ, i64_w, i32_w]
    rfl
  refine pure_ (i := 9) (N := some 55) (v := ?_) (a' := ?_) #[true, true, true, true, true, true, true, true, true, true, false, false] rfl rfl (by kernel_rfl) (fun c a w h => HP.out c a _ _ w h) (Or.inl ⟨by rfl, ?_⟩) ?_ ?_
  rotate_left
  · intro w'
    go_simp
    with_reducible rfl
  rotate_left
  · simp only [Act.put, List.setIfInBounds_toArray, List.set_cons_zero, List.set_cons_succ, i64_w, i32_w]
    rfl
  refine take_ (i := 10) (N := some 56) (v := ?_) (a' := ?_) #[true, true, true, true, true, true, true, true, true, true, true, false] rfl rfl (by kernel_rfl) (fun c a w h => HP.out c a _ _ w h) (Or.inl ⟨by rfl, ?_⟩) hHeld ?_ ?_
  rotate_left
  · intro w' s0
    go_simp
    with_reducible rfl
  rotate_left
  · simp only [Act.put, List.setIfInBounds_toArray, List.set_cons_zero, List.set_cons_succ, i64_w, i32_w]
    rfl
  refine last_ (i := 11) (N := some 57) #[true, true, true, true, true, true, true, true, true, true, true, true] rfl rfl (by kernel_rfl) (by decide) (fun K hK => ?_)
  refine goes_ Tryd.func22 (by kernel_rfl) rfl #[.pointer (some ⟨L, 0, none⟩), .slice (some (ad.add hN)) (b.length - hN) (c - hN), .int .i64 (hN : Int)] (by rfl) rfl rfl (by (try simp only [List.map_toArray, List.map_cons, List.map_nil]); first | done | rfl) ?_
  have HLC := looks_any (g := ⟨(hN : Int), frm, end_, gen, snap, recs, down⟩) (sv := sv) (rv := rv) (at' := (hN : Int)) (c := c - hN) HL3.out HD3.out HC3.out (by rw [HDL.out]; omega) (by_drop hby hN) (by rw [HDL.out]; omega) HT.out
  rw [HDL.out] at HLC
  refine HLC.mono ?_
  rintro x w4 ⟨rfl, sv', hl4, hd4, hk4⟩
  refine ⟨_, rfl, ?_⟩
  have HL4 := Lib.hid hl4
  have HD4 := Lib.hid hd4
  have HK4 := Lib.hid (HK3.out.trans (kt_L HL3.out hk4))
  refine hK.out _ _ ?_
  clear hK K hl4 hd4 hk4 HLC
  refine done_ (by kernel_rfl) ?_
  exact HE.out _ _ _ _ _ _ _ _ _ _ _ _ _ _ HL4 HD4 HK4
noncomputable def opC14 : Code := (Tryd.f8.body.bind (regC 14)).getD .skip
set_option maxHeartbeats 4000000 in
set_option maxRecDepth 100000 in
theorem op14_wp {w0 w : World} {L p S E n hN fN eN : Nat} {gen : Int} {sv rv : Value} {snap : List Int} {recs : List (List Int)} {down : Bool} {d : Dk} {ad : Addr} {c : Nat} {b : List Int} {R : Nat × List (List Int)} {Q : Exit → Act → World → Prop} {c0 c1 c2 c3 c6 c7 c8 c9 c10 c11 c12 c13 c14 c15 c16 c17 c18 c19 c20 c21 c22 c23 c24 c25 c26 c27 c28 c29 c30 c31 c32 c33 c34 c35 c36 c37 c38 c39 c40 c41 c42 c43 c44 c45 c46 c47 c48 c49 c50 c51 c52 c53 c54 c55 c56 c57 c58 c59 c60 c61 c62 c63 c64 c65 c66 c67 c68 c69 c70 c71 c72 c73 c74 c75 c76 c77 c78 c79 c80 c81 c82 c83 c84 c85 c86 c87 c88 c89 c90 c91 c92 c93 c94 c95 c96 c97 c98 c99 c100 c101 c102 c103 c104 c105 c106 c107 c108 c109 c110 c111 c112 c113 c114 c115 c116 c117 c118 c119 c120 c121 c122 c123 c124 c125 : Value}
    (HL : Hid (Lm w0 w L p S E (hN : Int) (fN : Int) (eN : Int) gen sv rv snap recs down)) (HD : Hid (Dsk w0 w p S E n d)) (HC : Hid (∀ W, KT L w W → Kd.C (Kd.int .u8) W (some ad) b.length b)) (HT : Hid (Tbl w0)) (hc : b.length ≤ c) (hcm : c ≤ 9223372036854775807) (hb2 : b.length = 2 * hN) (hh : 64 ≤ hN) (hh2 : hN ≤ 500000) (hf : fN ≤ hN) (he : eN ≤ hN) (hby : By b) (hre : recs.length ≤ eN) (hg0 : 1 ≤ gen) (hg1 : gen ≤ 4294967295) (HOV : Hid (∀ k, rv.ownBlock = some k → L ≤ k)) (HR : Hid (readAll ((b.take (fN + hN)).drop fN) gen (hN + 1) eN recs = R))
    (HP : Hid (∀ c (a : Act) (N : Option Tmp) (v : Value) (w : World), Q (.panic c) (a.put N v) w → Q (.panic c) a w)) (HE : Hid (∀ (d69 d70 d71 d72 d73 d74 d75 d76 d77 d78 d79 d80 d81 d82 d83 d84 d85 : Value) (rv' : Value) (w' : World), Hid (Lm w0 w' L p S E (hN : Int) (fN : Int) (R.1 : Int) gen sv rv' snap R.2 down) → Hid (Dsk w0 w' p S E n d) → Hid (KT L w w') → Q .normal ⟨#[c0, c1, c2, c3, .pointer (some ⟨L, 0, none⟩), .slice (some ad) b.length c, c6, c7, c8, c9, c10, c11, c12, c13, c14, c15, c16, c17, c18, c19, c20, c21, c22, c23, c24, c25, c26, c27, c28, c29, c30, c31, c32, c33, c34, c35, c36, c37, c38, c39, c40, c41, c42, c43, c44, c45, c46, c47, c48, c49, c50, c51, c52, c53, c54, c55, c56, c57, c58, c59, c60, c61, c62, c63, c64, c65, c66, c67, c68, d69, d70, d71, d72, d73, d74, d75, d76, d77, d78, d79, d80, d81, d82, d83, d84, d85, c86, c87, c88, c89, c90, c91, c92, c93, c94, c95, c96, c97, c98, c99, c100, c101, c102, c103, c104, c105, c106, c107, c108, c109, c110, c111, c112, c113, c114, c115, c116, c117, c118, c119, c120, c121, c122, c123, c124, c125], []⟩ w')) :
    Code.wp Tryd.prog opC14 Q ⟨#[c0, c1, c2, c3, .pointer (some ⟨L, 0, none⟩), .slice (some ad) b.length c, c6, c7, c8, c9, c10, c11, c12, c13, c14, c15, c16, c17, c18, c19, c20, c21, c22, c23, c24, c25, c26, c27, c28, c29, c30, c31, c32, c33, c34, c35, c36, c37, c38, c39, c40, c41, c42, c43, c44, c45, c46, c47, c48, c49, c50, c51, c52, c53, c54, c55, c56, c57, c58, c59, c60, c61, c62, c63, c64, c65, c66, c67, c68, c69, c70, c71, c72, c73, c74, c75, c76, c77, c78, c79, c80, c81, c82, c83, c84, c85, c86, c87, c88, c89, c90, c91, c92, c93, c94, c95, c96, c97, c98, c99, c100, c101, c102, c103, c104, c105, c106, c107, c108, c109, c110, c111, c112, c113, c114, c115, c116, c117, c118, c119, c120, c121, c122, c123, c124, c125], []⟩ w := by
  unfold opC14
  conv => arg 2; whnf
  have hb3 : b.length ≤ 2000000 := by omega
  have hlo : fN + hN ≤ b.length := by omega
  have hlo2 : (fN : Int) + (hN : Int) ≤ (b.length : Int) := by omega
  have hlo3 : (fN : Int) ≤ (fN : Int) + (hN : Int) := by omega
  have hne : ¬ c = fN := by omega
  have hx0 : 0 ≤ (fN : Int) + (hN : Int) := by omega
  have hx1 : (fN : Int) + (hN : Int) ≤ (c : Int) := by omega
  have hto : ((fN : Int) + (hN : Int)).toNat = fN + hN := by omega
  have hsu : fN + hN - fN = hN := by omega
  have hdl : ((b.take (fN + hN)).drop fN).length = hN := by rw [List.length_drop, List.length_take]; omega
  have HCD : Hid (∀ W, KT L w W → Kd.C (Kd.int .u8) W (some (ad.add fN)) hN ((b.take (fN + hN)).drop fN)) := Lib.hid fun W hW => by
    have h := Kd.C_mid (HC.out W hW) (show fN ≤ fN + hN by omega) hlo hc
    rw [if_neg hne, Option.map_some, show (Kd.int .u8).sz = 1 from rfl, Nat.mul_one, hdl] at h
    exact h
  have HDL := Lib.hid hdl
  have HB2 := Lib.hid hb2
  have hi1 : IntKind.i64.wrap ((fN : Int) + (hN : Int)) = (fN : Int) + (hN : Int) := IntWalk.i64_in _ (by clear HCD; omega)
  have hw1 : wrap64 ((fN : Int) + (hN : Int)) = (fN : Int) + (hN : Int) := IntWalk.wrap64_in _ (by clear hi1; omega)
  clear hdl hb2 hlo
  refine start_ (n := 17) (S := fun w' => w'.cell? ⟨L, 1, none⟩ = some (.int .i64 (hN : Int)) ∧ w'.cell? ⟨L, 2, none⟩ = some (.int .i64 (fN : Int))) (ds := [16]) #[false, false, false, false, false, false, false, false, false, false, false, false, false, false, false, false, false] (by kernel_rfl) rfl rfl ?_ (fun hHeld => ?_)
  · exact ⟨cell_eq (blk_cell (show w.drew.heap[L]? = _ from HL.out.hL) 1) rfl, cell_eq (blk_cell (show w.drew.heap[L]? = _ from HL.out.hL) 2) rfl⟩
  have HL3 := Lib.hid (HL.out.below (w1 := w.drew) (Below.refl _ _).drew)
  have HD3 := Lib.hid (HD.out.below (w1 := w.drew) (Below.refl _ _).drew)
  have HK3 := Lib.hid (KT.below (KT.refl L w) (w2 := w.drew) (Below.refl _ _).drew)
  clear HL HD HC
  generalize w.drew = w3 at hHeld HL3 HD3 HK3 ⊢
  refine pure_ (i := 0) (N := some 69) (v := ?_) (a' := ?_) #[true, false, false, false, false, false, false, false, false, false, false, false, false, false, false, false, false] rfl rfl (by kernel_rfl) (fun c a w h => HP.out c a _ _ w h) (Or.inl ⟨by rfl, ?_⟩) ?_ ?_
  rotate_left
  · intro w'
    go_simp
    with_reducible rfl
  rotate_left
  · simp only [Act.put, List.setIfInBounds_toArray, List.set_cons_zero, List.set_cons_succ, i64_w, i32_w]
    rfl
  refine pure_ (i := 1) (N := some 70) (v := ?_) (a' := ?_) #[true, true, false, false, false, false, false, false, false, false, false, false, false, false, false, false, false] rfl rfl (by kernel_rfl) (fun c a w h => HP.out c a _ _ w h) (Or.inl ⟨by rfl, ?_⟩) ?_ ?_
  rotate_left
  · intro w'
    go_simp
    with_reducible rfl
  rotate_left
  · simp only [Act.put, List.setIfInBounds_toArray, List.set_cons_zero, List.set_cons_succ, i64_w, i32_w]
    rfl
  refine pure_ (i := 2) (N := some 71) (v := ?_) (a' := ?_) #[true, true, true, false, false, false, false, false, false, false, false, false, false, false, false, false, false] rfl rfl (by kernel_rfl) (fun c a w h => HP.out c a _ _ w h) (Or.inl ⟨by rfl, ?_⟩) ?_ ?_
  rotate_left
  · intro w'
    go_simp
    with_reducible rfl
  rotate_left
  · simp only [Act.put, List.setIfInBounds_toArray, List.set_cons_zero, List.set_cons_succ, i64_w, i32_w]
    rfl
  refine pure_ (i := 3) (N := some 72) (v := ?_) (a' := ?_) #[true, true, true, true, false, false, false, false, false, false, false, false, false, false, false, false, false] rfl rfl (by kernel_rfl) (fun c a w h => HP.out c a _ _ w h) (Or.inl ⟨by rfl, ?_⟩) ?_ ?_
  rotate_left
  · intro w'
    go_simp
    with_reducible rfl
  rotate_left
  · simp only [Act.put, List.setIfInBounds_toArray, List.set_cons_zero, List.set_cons_succ, i64_w, i32_w]
    rfl
  refine pure_ (i := 4) (N := some 73) (v := ?_) (a' := ?_) #[true, true, true, true, true, false, false, false, false, false, false, false, false, false, false, false, false] rfl rfl (by kernel_rfl) (fun c a w h => HP.out c a _ _ w h) (Or.inl ⟨by rfl, ?_⟩) ?_ ?_
  rotate_left
  · intro w'
    go_simp
    with_reducible rfl
  rotate_left
  · simp only [Act.put, List.setIfInBounds_toArray, List.set_cons_zero, List.set_cons_succ, i64_w, i32_w]
    rfl
  refine take_ (i := 5) (N := some 74) (v := ?_) (a' := ?_) #[true, true, true, true, true, true, false, false, false, false, false, false, false, false, false, false, false] rfl rfl (by kernel_rfl) (fun c a w h => HP.out c a _ _ w h) (Or.inl ⟨by rfl, ?_⟩) hHeld ?_ ?_
  rotate_left
  · rintro w' ⟨s0, s1⟩
    go_simp
    with_reducible rfl
  rotate_left
  · simp only [Act.put, List.setIfInBounds_toArray, List.set_cons_zero, List.set_cons_succ, i64_w, i32_w]
    rfl
  refine pure_ (i := 6) (N := some 75) (v := ?_) (a' := ?_) #[true, true, true, true, true, true, true, false, false, false, false, false, false, false, false, false, false] rfl rfl (by kernel_rfl) (fun c a w h => HP.out c a _ _ w h) (Or.inl ⟨by rfl, ?_⟩) ?_ ?_
  rotate_left
  · intro w'
    go_simp
    with_reducible rfl
  rotate_left
  · simp only [Act.put, List.setIfInBounds_toArray, List.set_cons_zero, List.set_cons_succ, i64_w, i32_w]
    rfl
  refine pure_ (i := 7) (N := some 76) (v := ?_) (a' := ?_) #[true, true, true, true, true, true, true, true, false, false, false, false, false, false, false, false, false] rfl rfl (by kernel_rfl) (fun c a w h => HP.out c a _ _ w h) (Or.inl ⟨by rfl, ?_⟩) ?_ ?_
  rotate_left
  · intro w'
    go_simp
    with_reducible rfl
  rotate_left
  · simp only [Act.put, List.setIfInBounds_toArray, List.set_cons_zero, List.set_cons_succ, i64_w, i32_w]
    rfl
  refine pure_ (i := 8) (N := some 77) (v := ?_) (a' := ?_) #[true, true, true, true, true, true, true, true, true, false, false, false, false, false, false, false, false] rfl rfl (by kernel_rfl) (fun c a w h => HP.out c a _ _ w h) (Or.inl ⟨by rfl, ?_⟩) ?_ ?_
  rotate_left
  · intro w'
    go_simp
    with_reducible rfl
  rotate_left
  · simp only [Act.put, List.setIfInBounds_toArray, List.set_cons_zero, List.set_cons_succ, i64_w, i32_w]
    rfl
  refine take_ (i := 9) (N := some 78) (v := ?_) (a' := ?_) #[true, true, true, true, true, true, true, true, true, true, false, false, false, false, false, false, false] rfl rfl (by kernel_rfl) (fun c a w h => HP.out c a _ _ w h) (Or.inl ⟨by rfl, ?_⟩) hHeld ?_ ?_
  rotate_left
  · rintro w' ⟨s0, s1⟩
    go_simp
    with_reducible rfl
  rotate_left
  · simp only [Act.put, List.setIfInBounds_toArray, List.set_cons_zero, List.set_cons_succ, i64_w, i32_w]
    rfl
  refine pure_ (i := 10) (N := some 79) (v := ?_) (a' := ?_) #[true, true, true, true, true, true, true, true, true, true, true, false, false, false, false, false, false] rfl rfl (by kernel_rfl) (fun c a w h => HP.out c a _ _ w h) (Or.inl ⟨by rfl, ?_⟩) ?_ ?_
  rotate_left
  · intro w'
    go_simp
    with_reducible rfl
  rotate_left
  · simp only [Act.put, List.setIfInBounds_toArray, List.set_cons_zero, List.set_cons_succ, i64_w, i32_w]
    rfl
  refine pure_ (i := 11) (N := some 80) (v := ?_) (a' := ?_) #[true, true, true, true, true, true, true, true, true, true, true, true, false, false, false, false, false] rfl rfl (by kernel_rfl) (fun c a w h => HP.out c a _ _ w h) (Or.inl ⟨by rfl, ?_⟩) ?_ ?_
  rotate_left
  · intro w'
    go_simp
    with_reducible rfl
  rotate_left
  · simp only [Act.put, List.setIfInBounds_toArray, List.set_cons_zero, List.set_cons_succ, i64_w, i32_w]
    rfl
  refine pure_ (i := 12) (N := some 81) (v := ?_) (a' := ?_) #[true, true, true, true, true, true, true, true, true, true, true, true, true, false, false, false, false] rfl rfl (by kernel_rfl) (fun c a w h => HP.out c a _ _ w h) (Or.inl ⟨by rfl, ?_⟩) ?_ ?_
  rotate_left
  · intro w'
    go_simp
    with_reducible rfl
  rotate_left
  · simp only [Act.put, List.setIfInBounds_toArray, List.set_cons_zero, List.set_cons_succ, i64_w, i32_w]
    rfl
  refine take_ (i := 13) (N := some 82) (v := ?_) (a' := ?_) #[true, true, true, true, true, true, true, true, true, true, true, true, true, true, false, false, false] rfl rfl (by kernel_rfl) (fun c a w h => HP.out c a _ _ w h) (Or.inl ⟨by rfl, ?_⟩) hHeld ?_ ?_
  rotate_left
  · rintro w' ⟨s0, s1⟩
    go_simp
    with_reducible rfl
  rotate_left
  · simp only [Act.put, List.setIfInBounds_toArray, List.set_cons_zero, List.set_cons_succ, i64_w, i32_w]
    rfl
  refine pure_ (i := 14) (N := some 83) (v := ?_) (a' := ?_) #[true, true, true, true, true, true, true, true, true, true, true, true, true, true, true, false, false] rfl rfl (by kernel_rfl) (fun c a w h => HP.out c a _ _ w h) (Or.inl ⟨by rfl, ?_⟩) ?_ ?_
  rotate_left
  · intro w'
    go_simp
    with_reducible rfl
  rotate_left
  · simp only [Act.put, List.setIfInBounds_toArray, List.set_cons_zero, List.set_cons_succ, i64_w, i32_w]
    rfl
  refine pure_ (i := 15) (N := some 84) (v := ?_) (a' := ?_) #[true, true, true, true, true, true, true, true, true, true, true, true, true, true, true, true, false] rfl rfl (by kernel_rfl) (fun c a w h => HP.out c a _ _ w h) (Or.inl ⟨by rfl, ?_⟩) ?_ ?_
  rotate_left
  · intro w'
    go_simp
    with_reducible rfl
  rotate_left
  · simp only [Act.put, List.setIfInBounds_toArray, List.set_cons_zero, List.set_cons_succ, i64_w, i32_w]
    rfl
  refine last_ (i := 16) (N := some 85) #[true, true, true, true, true, true, true, true, true, true, true, true, true, true, true, true, true] rfl rfl (by kernel_rfl) (by decide) (fun K hK => ?_)
  refine goes_ Tryd.func24 (by kernel_rfl) rfl #[.pointer (some ⟨L, 0, none⟩), .slice (some (ad.add fN)) hN (c - fN)] (by rfl) rfl rfl (by (try simp only [List.map_toArray, List.map_cons, List.map_nil]); first | done | rfl) ?_
  clear hw1 hi1
  have HRC := reads_any (b := (b.take (fN + hN)).drop fN) (c := c - fN) (ad := ad.add fN) HL3.out HD3.out (by rw [HDL.out]; exact fun W hW => HCD.out W (HK3.out.trans hW)) (by rw [HDL.out]; have := HB2.out; omega) (by omega) (by_drop (by_take hby _) _) (by rw [HDL.out]; omega) (by rw [HDL.out]; exact he) hre hg0 hg1 HOV.out HT.out
  rw [HDL.out, HR.out] at HRC
  refine HRC.mono ?_
  rintro x w4 ⟨rfl, rv', hl4, hd4, hk4⟩
  refine ⟨_, rfl, ?_⟩
  have HL4 := Lib.hid hl4
  have HD4 := Lib.hid hd4
  have HK4 := Lib.hid (HK3.out.trans hk4)
  refine hK.out _ _ ?_
  clear hK K hl4 hd4 hk4 HRC
  refine done_ (by kernel_rfl) ?_
  exact HE.out _ _ _ _ _ _ _ _ _ _ _ _ _ _ _ _ _ _ _ HL4 HD4 HK4
end Go.Proofs.YtndelndgioojgaaDoor.Own
