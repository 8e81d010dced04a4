import Derived.Test.YthpibikfecjoiaaBst6
import Derived.Test.YthpibikfecjoiaaBst7
namespace Go.Proofs.Ythpibikfecjoiaa.Own
open Go.RowKit Go.Proofs.YthpibikfecjoiaaW.PrintWords Go.Proofs.YthpibikfecjoiaaW.PrintLast Go.Proofs.YthpibikfecjoiaaW.PrintMore
set_option linter.unusedVariables false
set_option linter.unusedSimpArgs false
theorem rF_true {l : List S33} {can : List Bool} {t : Nat} (h : can.getD t false = true) (ht : t < l.length) : wrap64 (rF l can (l.length - (t + 1)) (t + 1) + wt (rd_T33 l (t : Int))) = rF l can (l.length - t) t := by
  rw [show l.length - t = (l.length - (t + 1)) + 1 from by omega]
  conv => rhs; unfold rF
  rw [h, if_pos rfl]
set_option maxHeartbeats 4000000 in
set_option maxRecDepth 100000 in
theorem blk1_wp {lA aA : Option Addr} {lc ac : Nat} {l : List S33} {can : List Bool} {apart : List S39} {seats : Int} {w1 wr : World} {p C R t : Nat} {Q : Exit → Act → World → Prop} {c1 c2 c3 c4 c5 c6 c7 c8 c11 c12 c13 c14 c15 c16 c17 c18 c19 c20 c21 c22 c23 c24 c25 c26 c27 c28 c29 c30 c31 c32 c33 c34 c35 c36 c37 c38 c39 c40 c41 c42 c43 c44 c45 c46 c47 c48 c49 c50 c51 c52 c53 c54 c55 c56 c57 c58 c59 c60 c61 c62 c63 c64 c65 c66 c67 c68 c69 c70 c71 c72 c73 c74 c75 c76 c77 c78 c79 c80 c81 : Value}
    (HL : Hid (Kd.C k33 w1 lA l.length l)) (HM2 : Hid (Mem w1 wr p C R (scells lA l.length lc C seats aA apart.length ac R (.slice none 0 0) 0 (.slice none 0 0) 0 false) (canP l.length can) (restRow l (canP l.length can) (t + 1)) [] [] (.slice none 0 0) (.slice none 0 0))) (nR : w1.heap.size ≤ R) (ht : t < l.length) (h16 : l.length ≤ 16)
    (HP : Hid (∀ c (a : Act) (N : Option Tmp) (v : Value) (w : World), Q (.panic c) (a.put N v) w → Q (.panic c) a w)) (HE : Hid (∀ (d41 d42 d43 d44 d45 d46 d47 d48 d49 d50 d51 d52 d53 d54 d55 d56 d57 d58 d59 d60 d61 d62 d63 d64 d65 d66 d67 d68 d69 d70 d71 d72 d73 d74 d75 : Value) (w' : World), Hid (Mem w1 w' p C R (scells lA l.length lc C seats aA apart.length ac R (.slice none 0 0) 0 (.slice none 0 0) 0 false) (canP l.length can) (restRow l (canP l.length can) t) [] [] (.slice none 0 0) (.slice none 0 0)) → Q .normal ⟨#[.slice lA l.length lc, c1, c2, c3, c4, c5, c6, c7, c8, .pointer (some ⟨p, 0, none⟩), .int .i64 (t : Int), c11, c12, c13, c14, c15, c16, c17, c18, c19, c20, c21, c22, c23, c24, c25, c26, c27, c28, c29, c30, c31, c32, c33, c34, c35, c36, c37, c38, c39, c40, d41, d42, d43, d44, d45, d46, d47, d48, d49, d50, d51, d52, d53, d54, d55, d56, d57, d58, d59, d60, d61, d62, d63, d64, d65, d66, d67, d68, d69, d70, d71, d72, d73, d74, d75, c76, c77, c78, c79, c80, c81], []⟩ w')) :
    Code.wp Try.prog chB1 Q ⟨#[.slice lA l.length lc, c1, c2, c3, c4, c5, c6, c7, c8, .pointer (some ⟨p, 0, none⟩), .int .i64 (t : Int), c11, c12, c13, c14, c15, c16, c17, c18, c19, c20, c21, c22, c23, c24, c25, c26, c27, c28, c29, c30, c31, c32, c33, c34, c35, c36, c37, c38, c39, c40, c41, c42, c43, c44, c45, c46, c47, c48, c49, c50, c51, c52, c53, c54, c55, c56, c57, c58, c59, c60, c61, c62, c63, c64, c65, c66, c67, c68, c69, c70, c71, c72, c73, c74, c75, c76, c77, c78, c79, c80, c81], []⟩ wr := by
  unfold chB1
  conv => arg 2; whnf
  go_wp2
  refine reg7_wp HM2 nR ht h16 (Lib.hid fun c a N v w h => HP.out c a N v w h) (Lib.hid ?_)
  clear HM2
  intro d41 d42 d43 d44 d45 d46 d47 d48 d49 d50 d51 d52 d53 d54 w5 HM5
  have k1 : w5.cell? ⟨p, 1, none⟩ = some (.slice (some ⟨C, 0, none⟩) l.length l.length) := blk_cell HM5.out.hp 1
  have kc : w5.cell? ⟨C, t, none⟩ = some (.bool ((canP l.length can).getD t false)) := (blk_cell HM5.out.hC t).trans (can_at (by rw [canP_len]; omega))
  cases hct : (canP l.length can).getD t false with
  | false =>
    rw [hct] at kc
    have HCT := Lib.hid hct
    clear hct
    go_wp2
    exact HE.out _ _ _ _ _ _ _ _ _ _ _ _ _ _ _ _ _ _ _ _ _ _ _ _ _ _ _ _ _ _ _ _ _ _ _ _ (Lib.hid (by have h := HM5.out; rw [restRow_set_false HCT.out ht] at h; exact h))
  | true =>
    rw [hct] at kc
    have HCT := Lib.hid hct
    clear hct
    go_wp2
    refine reg9_wp HL HM5 nR ht h16 (Lib.hid fun c a N v w h => HP.out c a N v w h) (Lib.hid ?_)
    clear k1 kc
    intro d62 d63 d64 d65 d66 d67 d68 d69 d70 d71 d72 d73 d74 d75 w6 HM6
    exact HE.out _ _ _ _ _ _ _ _ _ _ _ _ _ _ _ _ _ _ _ _ _ _ _ _ _ _ _ _ _ _ _ _ _ _ _ _ (Lib.hid (by have h := HM6.out; rw [restRow_set (rF_true HCT.out ht) ht] at h; exact h))
end Go.Proofs.Ythpibikfecjoiaa.Own
