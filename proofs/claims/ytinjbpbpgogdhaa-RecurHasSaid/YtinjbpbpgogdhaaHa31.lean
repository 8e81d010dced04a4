-- own text: texts of this session merged by a program of it (merge.py), declarations that nothing reaches left out (prune.py)
import Derived.Test.YtinjbpbpgogdhaaHa30
section
namespace Go.Proofs.Ytinjbpbpgogdhaa.Own
open Go.RowKit Go.Shelf Go.Proofs.YtinjbpbpgogdhaaW.PrintWords Go.Proofs.YtinjbpbpgogdhaaW.PrintLast Go.Proofs.YtinjbpbpgogdhaaW.PrintMore
set_option linter.unusedVariables false
set_option linter.unusedSimpArgs false
set_option maxHeartbeats 8000000 in
set_option maxRecDepth 100000 in
/-- ref10.Of. -/
theorem rof_any {y m d : Int} (hok : Ok y m d) (w : World) :
    Calls Try.prog 17 #[.int .i64 (num y m d)] w fun e w' => e = .returned (.agg #[.int .i64 (num y m d), .int .i64 y, .int .i64 m, .int .i64 d, .int .i64 (num y m d % 7)]) ∧ Below w.heap.size w w' := by
  have HDT := Lib.hid (fun W => rdate_any hok W)
  have hnb := num_bd hok
  obtain ⟨n, hn⟩ : ∃ n, n = num y m d := ⟨_, rfl⟩
  rw [← hn] at hnb HDT ⊢
  clear hn hok
  obtain ⟨V, hV⟩ : ∃ x, x = n % 7 := ⟨_, rfl⟩
  have hVb : 0 ≤ V ∧ V ≤ 6 := by omega
  have k6 : Int.tmod n 7 = V := by rw [hV]; exact Int.tmod_eq_emod_of_nonneg (by omega)
  have k7 : wrap64 V = V := by clear k6; exact IntWalk.wrap64_in _ (by omega)
  rw [← hV]
  clear hV
  go_enter Try.func17, Try.ntmps17
  go_upto_region 1 with (fail)
  have hx1 := World.alloc_heap_new w (.cells #[.int .i64 0, .int .i64 0, .int .i64 0, .int .i64 0, .int .i64 0] 47)
  have hxb : Below w.heap.size w (w.alloc (.cells #[.int .i64 0, .int .i64 0, .int .i64 0, .int .i64 0, .int .i64 0] 47)) := below_new_
  generalize (w.alloc (.cells #[.int .i64 0, .int .i64 0, .int .i64 0, .int .i64 0, .int .i64 0] 47)) = w1 at hx1 hxb ⊢
  obtain ⟨g1, hg1⟩ : ∃ x, x = w.heap.size := ⟨_, rfl⟩
  rw [← hg1] at hx1 ⊢
  have HG : Hid (w.heap.size ≤ g1) := Lib.hid (by omega)
  clear hg1
  have H1 := Lib.hid hx1
  have HB1 := Lib.hid hxb
  clear hx1 hxb
  go_upto_region 2 with (first | ((with_reducible refine (HDT.out _).mono ?_); rintro e w2 ⟨rfl, hb2⟩; have H2 := Lib.hid (keep_below hb2 H1.out); have HB2 := Lib.hid (HB1.out.trans (hb2.mono HB1.out.size)); clear hb2))
  have HA3 := Lib.hid (World.alloc_heap_new w2 (.cells #[.int .i64 y, .int .i64 m, .int .i64 d] 37))
  have HA1 := Lib.hid (keep_alloc H2.out (.cells #[.int .i64 y, .int .i64 m, .int .i64 d] 37))
  have HAB := Lib.hid (HB2.out.alloc HB2.out.size (.cells #[.int .i64 y, .int .i64 m, .int .i64 d] 37))
  obtain ⟨g3, hg3⟩ : ∃ x, x = w2.heap.size := ⟨_, rfl⟩
  rw [← hg3] at HA3 ⊢
  clear hg3
  generalize (w2.alloc (.cells #[.int .i64 y, .int .i64 m, .int .i64 d] 37)) = w4 at HA3 HA1 HAB ⊢
  obtain ⟨u0, u1, u2⟩ := cells3 HA3.out
  have f20 := blk_frozen HA1.out 0
  have f21 := blk_frozen HA1.out 1
  have f22 := blk_frozen HA1.out 2
  have f23 := blk_frozen HA1.out 3
  have f24 := blk_frozen HA1.out 4
  obtain ⟨z0, z1, z2, z3, z4⟩ := cells5 HA1.out
  go_wp2
  have HZ := Lib.hid (set5 (a := .int .i64 n) (b := .int .i64 y) (c := .int .i64 m) (d := .int .i64 d) (e := .int .i64 V) HA1.out)
  have HZB : Hid (Below w.heap.size w (((((w4.setCell ⟨g1, 0, none⟩ (.int .i64 n)).setCell ⟨g1, 1, none⟩ (.int .i64 y)).setCell ⟨g1, 2, none⟩ (.int .i64 m)).setCell ⟨g1, 3, none⟩ (.int .i64 d)).setCell ⟨g1, 4, none⟩ (.int .i64 V))) := Lib.hid (((((HAB.out.setCell HG.out _).setCell HG.out _).setCell HG.out _).setCell HG.out _).setCell HG.out _)
  clear z0 z1 z2 z3 z4 u0 u1 u2 f20 f21 f22 f23 f24
  generalize (((((w4.setCell ⟨g1, 0, none⟩ (.int .i64 n)).setCell ⟨g1, 1, none⟩ (.int .i64 y)).setCell ⟨g1, 2, none⟩ (.int .i64 m)).setCell ⟨g1, 3, none⟩ (.int .i64 d)).setCell ⟨g1, 4, none⟩ (.int .i64 V)) = wz at HZ HZB ⊢
  refine bodyPost_ret (results_cell_row rfl _ _ g1 47 #[.int .i64 n, .int .i64 y, .int .i64 m, .int .i64 d, .int .i64 V] (0, 0) _ rfl HZ.out Try.underlying47 rfl (by kernel_rfl)) rfl ?_
  exact ⟨rfl, HZB.out⟩
/-- The first day of the start's period, told. -/
def beginZ (a0 a8 sN sy sd sW : Int) : Int := if a0 = 1 then sN else if a0 = 2 then (if sN - (sW - a8 + 7) % 7 < 0 then 0 else sN - (sW - a8 + 7) % 7) else if a0 = 3 then sN - sd + 1 else num sy 1 1
set_option maxHeartbeats 8000000 in
set_option maxRecDepth 100000 in
/-- ref10.begin. -/
theorem rbegin_any {a0 a1 a2 a3 a8 : Int} {A4 A5 A6 A7 : Option Addr} {c4 c5 c6 c7 : Nat} {l4 l5 l7 : List Int} {l6 : List S58} (sN sy sm sd sW : Int) (w : World) (ha : 1 ≤ a0 ∧ a0 ≤ 4) (h8 : 0 ≤ a8 ∧ a8 ≤ 6) (hW : 0 ≤ sW ∧ sW ≤ 6) (hsN : 0 ≤ sN ∧ sN ≤ 200000) (hok : Ok sy 1 1) (hd : 1 ≤ sd ∧ sd ≤ 31) :
    Calls Try.prog 18 #[.agg #[.int .i64 a0, .int .i64 a1, .int .i64 a2, .int .i64 a3, .slice A4 l4.length c4, .slice A5 l5.length c5, .slice A6 l6.length c6, .slice A7 l7.length c7, .int .i64 a8], .agg #[.int .i64 sN, .int .i64 sy, .int .i64 sm, .int .i64 sd, .int .i64 sW]] w fun e w' => e = .returned (.int .i64 (beginZ a0 a8 sN sy sd sW)) ∧ Below w.heap.size w w' := by
  have HNB : Hid (∀ W, Calls Try.prog 11 #[.agg #[.int .i64 sy, .int .i64 1, .int .i64 1]] W fun e w' => e = .returned (.tuple #[.int .i64 (num sy 1 1), .bool true]) ∧ Below W.heap.size W w') := Lib.hid (fun W => vespersref01_Number.calls 500 sy 1 1 _ _ W (ref_Number_ok (by decide) hok))
  obtain ⟨r, hr⟩ : ∃ r, r = beginZ a0 a8 sN sy sd sW := ⟨_, rfl⟩
  rw [← hr]
  unfold beginZ at hr
  have HR := Lib.hid hr
  clear hr hok
  obtain ⟨nz, hnz⟩ : ∃ x, x = num sy 1 1 := ⟨_, rfl⟩
  rw [← hnz] at HNB HR
  clear hnz
  go_enter Try.func18, Try.ntmps18
  go_upto_region 1 with (fail)
  have HX := boxes2 w (.cells #[.int .i64 a0, .int .i64 a1, .int .i64 a2, .int .i64 a3, .slice A4 l4.length c4, .slice A5 l5.length c5, .slice A6 l6.length c6, .slice A7 l7.length c7, .int .i64 a8] 25) (.cells #[.int .i64 sN, .int .i64 sy, .int .i64 sm, .int .i64 sd, .int .i64 sW] 47)
  generalize ((w.alloc (.cells #[.int .i64 a0, .int .i64 a1, .int .i64 a2, .int .i64 a3, .slice A4 l4.length c4, .slice A5 l5.length c5, .slice A6 l6.length c6, .slice A7 l7.length c7, .int .i64 a8] 25)).alloc (.cells #[.int .i64 sN, .int .i64 sy, .int .i64 sm, .int .i64 sd, .int .i64 sW] 47)) = w1 at HX ⊢
  obtain ⟨hx1, hx2, hxb⟩ := HX
  have H1 := Lib.hid hx1
  have H2 := Lib.hid hx2
  have HB1 := Lib.hid hxb
  clear hx1 hx2 hxb
  obtain ⟨g1, hg1⟩ : ∃ x, x = w.heap.size := ⟨_, rfl⟩
  rw [← hg1] at H1 H2 ⊢
  obtain ⟨g2, hg2⟩ : ∃ x, x = g1 + 1 := ⟨_, rfl⟩
  rw [← hg2] at H2 ⊢
  clear hg1 hg2
  obtain ⟨q0, q1, q2, q3, q4, q5, q6, q7, q8⟩ := cells9 H1.out
  clear q1 q2 q3 q4 q5 q6 q7
  obtain ⟨s0, s1, s2, s3, s4⟩ := cells5 H2.out
  by_cases e1 : a0 = 1
  · subst e1
    have hr := HR.out
    rw [if_pos rfl] at hr
    have HH := Lib.hid hr
    clear hr ha
    go_wp2
    go_ret
    rw [HH.out]
    exact ⟨rfl, HB1.out⟩
  · by_cases e2 : a0 = 2
    · subst e2
      have hr := HR.out
      rw [if_neg (by decide), if_pos rfl] at hr
      obtain ⟨iw, hiw⟩ : ∃ x, x = (sW - a8 + 7) % 7 := ⟨_, rfl⟩
      rw [← hiw] at hr
      have hib : 0 ≤ iw ∧ iw ≤ 6 := by omega
      have k1 : wrap64 (sW - a8) = sW - a8 := IntWalk.wrap64_in _ (by omega)
      have k2 : wrap64 (sW - a8 + 7) = sW - a8 + 7 := by clear k1; exact IntWalk.wrap64_in _ (by omega)
      have k3 : Int.tmod (sW - a8 + 7) 7 = iw := by clear k1 k2; rw [hiw]; exact Int.tmod_eq_emod_of_nonneg (by omega)
      have k4 : wrap64 iw = iw := by clear k1 k2 k3; exact IntWalk.wrap64_in _ (by omega)
      have k5 : wrap64 (sN - iw) = sN - iw := by clear k1 k2 k3 k4; exact IntWalk.wrap64_in _ (by omega)
      have HH := Lib.hid hr
      clear hr ha hiw HR e1
      go_wp2
      all_goals
        go_ret
        rw [HH.out]
        refine ⟨congrArg (fun x : Int => Ending.returned (Value.int IntKind.i64 x)) ?_, HB1.out⟩
        clear k1 k2 k3 k4 k5
        split <;> omega
    · by_cases e3 : a0 = 3
      · subst e3
        have hr := HR.out
        rw [if_neg (by decide), if_neg (by decide), if_pos rfl] at hr
        have k1 : wrap64 (sN - sd) = sN - sd := IntWalk.wrap64_in _ (by omega)
        have k2 : wrap64 (sN - sd + 1) = sN - sd + 1 := by clear k1; exact IntWalk.wrap64_in _ (by omega)
        have HH := Lib.hid hr
        clear hr ha HR e1 e2
        go_wp2
        go_ret
        rw [HH.out]
        exact ⟨rfl, HB1.out⟩
      · obtain rfl : a0 = 4 := by omega
        have hr := HR.out
        rw [if_neg (by decide), if_neg (by decide), if_neg (by decide)] at hr
        have HH := Lib.hid hr
        clear hr ha HR e1 e2 e3
        go_wp2_with (first | ((with_reducible refine (HNB.out _).mono ?_); rintro e w3 ⟨rfl, hb3⟩; have HB3 := Lib.hid (HB1.out.trans (hb3.mono HB1.out.size)); clear hb3))
        go_ret
        rw [HH.out]
        exact ⟨rfl, HB3.out⟩
end Go.Proofs.Ytinjbpbpgogdhaa.Own
end
section
namespace Go.Proofs.Ytinjbpbpgogdhaa.Own
open Go.RowKit Go.Shelf Go.Proofs.YtinjbpbpgogdhaaW.PrintWords Go.Proofs.YtinjbpbpgogdhaaW.PrintLast Go.Proofs.YtinjbpbpgogdhaaW.PrintMore
set_option linter.unusedVariables false
set_option linter.unusedSimpArgs false
/-- Is a time of a day left out? -/
def skipB (a2 a3 sN below x tt ol : Int) : Bool := decide (x < sN) || decide (below ≤ x) || (decide (0 ≤ a3) && decide (a3 < tt)) || (decide (0 < a2) && decide (ol = a2))
noncomputable def tm19C : Code := (Try.f9.body.bind (regC 19)).getD .skip
set_option maxHeartbeats 8000000 in
set_option maxRecDepth 100000 in
theorem tm19_wp {w : World} {g1 g8 : Nat} {a2 a3 sN below x tt j : Int} {oA : Option Addr} {ol oc n vc : Nat} {ad : Addr} {sk : Bool} {Q : Exit → Act → World → Prop} {c0 c1 c4 c5 c6 c9 c10 c11 c12 c16 c17 c18 c19 c20 c21 c22 c23 c24 c25 c26 c27 c28 c29 c30 c31 c32 c33 c34 c35 c36 c37 c38 c39 c40 c41 c42 c43 c44 c45 c46 c47 c48 c49 c50 c51 c52 c53 c54 c55 c56 c57 c58 c59 c60 c61 c62 c63 c64 c65 c66 c67 c68 c69 c70 c71 c72 c73 c74 c75 c76 c77 c78 c79 c80 c81 c82 c83 c84 c85 c86 c87 c88 c89 c90 c91 c92 c93 c94 c95 c96 c97 c98 c99 c100 c101 c102 c103 c104 c105 c106 c107 c108 c109 c110 c111 c112 c113 c114 c115 c116 c117 c118 c119 c120 c121 c122 c123 c124 c125 c126 c127 c128 c129 c130 c131 c132 c133 c134 c135 c136 c137 c138 c139 c140 c141 c142 c143 c144 c145 : Value}
    (hsk : sk = skipB a2 a3 sN below x tt (ol : Int)) (q2 : w.cell? ⟨g1, 2, none⟩ = some (.int .i64 a2)) (q3 : w.cell? ⟨g1, 3, none⟩ = some (.int .i64 a3)) (s0 : w.cell? ⟨g8, 0, none⟩ = some (.int .i64 sN))
    (hj0 : 0 ≤ j) (hj1 : j < (n : Int)) (hc1 : w.cell? (ad.add j.toNat) = some (.int .i64 x))
    (HE : Hid (∀ (d73 d74 d75 d76 d77 d78 d79 d80 d81 d82 d83 d84 d85 d86 d87 d88 d89 d90 d91 d92 d93 d94 d95 d96 d97 d98 d99 d100 d101 d102 d103 d104 d105 d106 d107 d108 d109 : Value) (w' : World), Hid (Below w.heap.size w w') → Q .normal ⟨#[c0, c1, .int .i64 below, .pointer (some ⟨g1, 0, none⟩), c4, c5, c6, .slice oA ol oc, .pointer (some ⟨g8, 0, none⟩), c9, c10, c11, c12, .slice (some ad) n vc, .int .i64 j, .int .i64 tt, c16, c17, c18, c19, c20, c21, c22, c23, c24, c25, c26, c27, c28, c29, c30, c31, c32, c33, c34, c35, c36, c37, c38, c39, c40, c41, c42, c43, c44, c45, c46, c47, c48, c49, c50, c51, c52, c53, c54, c55, c56, c57, c58, c59, c60, c61, c62, c63, c64, c65, c66, c67, c68, c69, c70, c71, c72, d73, d74, d75, d76, d77, d78, d79, d80, d81, d82, d83, d84, d85, d86, d87, d88, d89, d90, d91, d92, d93, d94, d95, d96, d97, d98, d99, d100, d101, d102, d103, d104, d105, d106, d107, d108, d109, .bool sk, c111, c112, c113, c114, c115, c116, c117, c118, c119, c120, c121, c122, c123, c124, c125, c126, c127, c128, c129, c130, c131, c132, c133, c134, c135, c136, c137, c138, c139, c140, c141, c142, c143, c144, c145], []⟩ w')) :
    Code.wp Try.prog tm19C Q ⟨#[c0, c1, .int .i64 below, .pointer (some ⟨g1, 0, none⟩), c4, c5, c6, .slice oA ol oc, .pointer (some ⟨g8, 0, none⟩), c9, c10, c11, c12, .slice (some ad) n vc, .int .i64 j, .int .i64 tt, c16, c17, c18, c19, c20, c21, c22, c23, c24, c25, c26, c27, c28, c29, c30, c31, c32, c33, c34, c35, c36, c37, c38, c39, c40, c41, c42, c43, c44, c45, c46, c47, c48, c49, c50, c51, c52, c53, c54, c55, c56, c57, c58, c59, c60, c61, c62, c63, c64, c65, c66, c67, c68, c69, c70, c71, c72, c73, c74, c75, c76, c77, c78, c79, c80, c81, c82, c83, c84, c85, c86, c87, c88, c89, c90, c91, c92, c93, c94, c95, c96, c97, c98, c99, c100, c101, c102, c103, c104, c105, c106, c107, c108, c109, c110, c111, c112, c113, c114, c115, c116, c117, c118, c119, c120, c121, c122, c123, c124, c125, c126, c127, c128, c129, c130, c131, c132, c133, c134, c135, c136, c137, c138, c139, c140, c141, c142, c143, c144, c145], []⟩ w := by
  unfold tm19C
  conv => arg 2; whnf
  try simp only [List.append_eq, List.cons_append, List.nil_append]
  unfold skipB at hsk
  by_cases b1 : x < sN
  · have b1d : decide (x < sN) = true := decide_eq_true b1
    have HS : Hid (sk = true) := Lib.hid (by rw [hsk]; rw [b1d]; rfl)
    clear hsk
    go_quiet (fail)
    rw [HS.out] at HE
    exact HE.out _ _ _ _ _ _ _ _ _ _ _ _ _ _ _ _ _ _ _ _ _ _ _ _ _ _ _ _ _ _ _ _ _ _ _ _ _ _ (Lib.hid (bdN (Below.refl w.heap.size w) _))
  · have b1d : decide (x < sN) = false := decide_eq_false b1
    by_cases b2 : below ≤ x
    · have b2d : decide (below ≤ x) = true := decide_eq_true b2
      have HS : Hid (sk = true) := Lib.hid (by rw [hsk]; rw [b1d, b2d]; rfl)
      clear hsk
      go_quiet (fail)
      rw [HS.out] at HE
      exact HE.out _ _ _ _ _ _ _ _ _ _ _ _ _ _ _ _ _ _ _ _ _ _ _ _ _ _ _ _ _ _ _ _ _ _ _ _ _ _ (Lib.hid (bdN (Below.refl w.heap.size w) _))
    · have b2d : decide (below ≤ x) = false := decide_eq_false b2
      by_cases b3 : 0 ≤ a3
      · have b3d : decide (0 ≤ a3) = true := decide_eq_true b3
        by_cases b4 : a3 < tt
        · have b4d : decide (a3 < tt) = true := decide_eq_true b4
          have HS : Hid (sk = true) := Lib.hid (by rw [hsk]; rw [b1d, b2d, b3d, b4d]; rfl)
          clear hsk
          go_quiet (fail)
          rw [HS.out] at HE
          exact HE.out _ _ _ _ _ _ _ _ _ _ _ _ _ _ _ _ _ _ _ _ _ _ _ _ _ _ _ _ _ _ _ _ _ _ _ _ _ _ (Lib.hid (bdN (Below.refl w.heap.size w) _))
        · have b4d : decide (a3 < tt) = false := decide_eq_false b4
          by_cases b5 : 0 < a2
          · have b5d : decide (0 < a2) = true := decide_eq_true b5
            by_cases b6 : (ol : Int) = a2
            · have b6d : decide ((ol : Int) = a2) = true := decide_eq_true b6
              have b6e : ((ol : Int) == a2) = true := beq_iff_eq.mpr b6
              have HS : Hid (sk = true) := Lib.hid (by rw [hsk]; rw [b1d, b2d, b3d, b4d, b5d, b6d]; rfl)
              clear hsk
              go_quiet (fail)
              rw [HS.out] at HE
              exact HE.out _ _ _ _ _ _ _ _ _ _ _ _ _ _ _ _ _ _ _ _ _ _ _ _ _ _ _ _ _ _ _ _ _ _ _ _ _ _ (Lib.hid (bdN (Below.refl w.heap.size w) _))
            · have b6d : decide ((ol : Int) = a2) = false := decide_eq_false b6
              have b6e : ((ol : Int) == a2) = false := by rw [Bool.eq_false_iff]; intro h; exact b6 (eq_of_beq h)
              have HS : Hid (sk = false) := Lib.hid (by rw [hsk]; rw [b1d, b2d, b3d, b4d, b5d, b6d]; rfl)
              clear hsk
              go_quiet (fail)
              rw [HS.out] at HE
              exact HE.out _ _ _ _ _ _ _ _ _ _ _ _ _ _ _ _ _ _ _ _ _ _ _ _ _ _ _ _ _ _ _ _ _ _ _ _ _ _ (Lib.hid (bdN (Below.refl w.heap.size w) _))
          · have b5d : decide (0 < a2) = false := decide_eq_false b5
            have HS : Hid (sk = false) := Lib.hid (by rw [hsk]; rw [b1d, b2d, b3d, b4d, b5d]; rfl)
            clear hsk
            go_quiet (fail)
            rw [HS.out] at HE
            exact HE.out _ _ _ _ _ _ _ _ _ _ _ _ _ _ _ _ _ _ _ _ _ _ _ _ _ _ _ _ _ _ _ _ _ _ _ _ _ _ (Lib.hid (bdN (Below.refl w.heap.size w) _))
      · have b3d : decide (0 ≤ a3) = false := decide_eq_false b3
        by_cases b5 : 0 < a2
        · have b5d : decide (0 < a2) = true := decide_eq_true b5
          by_cases b6 : (ol : Int) = a2
          · have b6d : decide ((ol : Int) = a2) = true := decide_eq_true b6
            have b6e : ((ol : Int) == a2) = true := beq_iff_eq.mpr b6
            have HS : Hid (sk = true) := Lib.hid (by rw [hsk]; rw [b1d, b2d, b3d, b5d, b6d]; rfl)
            clear hsk
            go_quiet (fail)
            rw [HS.out] at HE
            exact HE.out _ _ _ _ _ _ _ _ _ _ _ _ _ _ _ _ _ _ _ _ _ _ _ _ _ _ _ _ _ _ _ _ _ _ _ _ _ _ (Lib.hid (bdN (Below.refl w.heap.size w) _))
          · have b6d : decide ((ol : Int) = a2) = false := decide_eq_false b6
            have b6e : ((ol : Int) == a2) = false := by rw [Bool.eq_false_iff]; intro h; exact b6 (eq_of_beq h)
            have HS : Hid (sk = false) := Lib.hid (by rw [hsk]; rw [b1d, b2d, b3d, b5d, b6d]; rfl)
            clear hsk
            go_quiet (fail)
            rw [HS.out] at HE
            exact HE.out _ _ _ _ _ _ _ _ _ _ _ _ _ _ _ _ _ _ _ _ _ _ _ _ _ _ _ _ _ _ _ _ _ _ _ _ _ _ (Lib.hid (bdN (Below.refl w.heap.size w) _))
        · have b5d : decide (0 < a2) = false := decide_eq_false b5
          have HS : Hid (sk = false) := Lib.hid (by rw [hsk]; rw [b1d, b2d, b3d, b5d]; rfl)
          clear hsk
          go_quiet (fail)
          rw [HS.out] at HE
          exact HE.out _ _ _ _ _ _ _ _ _ _ _ _ _ _ _ _ _ _ _ _ _ _ _ _ _ _ _ _ _ _ _ _ _ _ _ _ _ _ (Lib.hid (bdN (Below.refl w.heap.size w) _))
end Go.Proofs.Ytinjbpbpgogdhaa.Own
end
section
namespace Go.Proofs.Ytinjbpbpgogdhaa.Own
open Go.RowKit Go.Shelf Go.Proofs.YtinjbpbpgogdhaaW.PrintWords Go.Proofs.YtinjbpbpgogdhaaW.PrintLast Go.Proofs.YtinjbpbpgogdhaaW.PrintMore
set_option linter.unusedVariables false
set_option linter.unusedSimpArgs false
/-- Of a period's days the first so many, put behind the times so far, told. -/
def flushG (a2 a3 sN below mi : Int) (l out : List Int) : Nat → List Int
  | 0 => out
  | j + 1 => if skipB a2 a3 sN below (rd l (j : Int)) (rd l (j : Int) * 1440 + mi) ((flushG a2 a3 sN below mi l out j).length : Int) = true then flushG a2 a3 sN below mi l out j else flushG a2 a3 sN below mi l out j ++ [rd l (j : Int) * 1440 + mi]
theorem flushG_len (a2 a3 sN below mi : Int) (l out : List Int) : ∀ j, (flushG a2 a3 sN below mi l out j).length ≤ out.length + j
  | 0 => Nat.le_refl _
  | j + 1 => by
    have := flushG_len a2 a3 sN below mi l out j
    unfold flushG
    split
    · omega
    · rw [List.length_append]
      simp
      omega
theorem flushG_no {a2 a3 sN below mi : Int} {l out : List Int} {j : Nat} (h : skipB a2 a3 sN below (rd l (j : Int)) (rd l (j : Int) * 1440 + mi) ((flushG a2 a3 sN below mi l out j).length : Int) = true) : flushG a2 a3 sN below mi l out (j + 1) = flushG a2 a3 sN below mi l out j := if_pos h
theorem flushG_yes {a2 a3 sN below mi : Int} {l out : List Int} {j : Nat} (h : skipB a2 a3 sN below (rd l (j : Int)) (rd l (j : Int) * 1440 + mi) ((flushG a2 a3 sN below mi l out j).length : Int) = false) : flushG a2 a3 sN below mi l out (j + 1) = flushG a2 a3 sN below mi l out j ++ [rd l (j : Int) * 1440 + mi] := if_neg (by rw [h]; simp)
def flushL (a2 a3 sN below mi : Int) (l out : List Int) : List Int := flushG a2 a3 sN below mi l out l.length
/-- The period's number of a day, 0 at the calendar's end. -/
def pZ (a0 a8 sN sy sm sW N y m : Int) : Int := if N < 109938 then perZ a0 a8 sN sy sm sW N y m else 0
/-- Does a day count? -/
def takeB (a0 a1 : Int) (l4 l5 : List Int) (l6 : List S58) (sm sd sW p N y m d wd : Int) : Bool := decide (N < 109938) && (decide (p % a1 = 0) && rrightB a0 l4 l5 l6 sm sd sW y m d wd)
/-- ref10.Times' loop, told: so many rounds are left; a day, its date and weekday; the last period, its days so far, the times so far. -/
def refGo (a0 a1 a2 a3 a8 : Int) (l4 l5 l7 : List Int) (l6 : List S58) (sN sy sm sd sW below mi : Int) : Nat → Int → Int → Int → Int → Int → Int → List Int → List Int → List Int
  | 0, _, _, _, _, _, _, _, out => out
  | k + 1, N, y, m, d, wd, last, l, out =>
    let p := pZ a0 a8 sN sy sm sW N y m
    let t := takeB a0 a1 l4 l5 l6 sm sd sW p N y m d wd
    if p ≠ last ∨ N = 109938 then
      if below ≤ N then flushL a2 a3 sN below mi (placesL l7 l) out
      else refGo a0 a1 a2 a3 a8 l4 l5 l7 l6 sN sy sm sd sW below mi k (N + 1) (nextY y m d) (nextM y m d) (nextD y m d) ((wd + 1) % 7) p (if t = true then [N] else []) (flushL a2 a3 sN below mi (placesL l7 l) out)
    else refGo a0 a1 a2 a3 a8 l4 l5 l7 l6 sN sy sm sd sW below mi k (N + 1) (nextY y m d) (nextM y m d) (nextD y m d) ((wd + 1) % 7) last (if t = true then l ++ [N] else l) out
end Go.Proofs.Ytinjbpbpgogdhaa.Own
end
section
namespace Go.Proofs.Ytinjbpbpgogdhaa.Own
open Go.RowKit Go.Shelf Go.Proofs.YtinjbpbpgogdhaaW.PrintWords Go.Proofs.YtinjbpbpgogdhaaW.PrintLast Go.Proofs.YtinjbpbpgogdhaaW.PrintMore
set_option linter.unusedVariables false
set_option linter.unusedSimpArgs false
/-- A day of the calendar, with its date; the day behind the last one. -/
def DayAt (N y m d : Int) : Prop := (Ok y m d ∧ num y m d = N) ∨ (N = 109938 ∧ y = 2201 ∧ m = 1 ∧ d = 1)
theorem DayAt.bd {N y m d : Int} (h : DayAt N y m d) : 0 ≤ N ∧ N ≤ 109938 ∧ 1900 ≤ y ∧ y ≤ 2201 ∧ 1 ≤ m ∧ m ≤ 12 ∧ 1 ≤ d ∧ d ≤ 31 ∧ d ≤ len y m := by
  rcases h with ⟨h, e⟩ | ⟨rfl, rfl, rfl, rfl⟩
  · have hb := num_bd h
    obtain ⟨h1, h2, h3, h4, h5, h6⟩ := h
    have := len_bd y m
    omega
  · have := len_lo (y := 2201) (m := 1) (by decide) (by decide)
    omega
theorem DayAt.ok {N y m d : Int} (h : DayAt N y m d) (hN : N < 109938) : Ok y m d ∧ num y m d = N := by
  rcases h with h | ⟨rfl, _⟩
  · exact h
  · omega
theorem num_last : num 2200 12 31 = 109937 := by decide
theorem DayAt.next {N y m d : Int} (h : DayAt N y m d) (hN : N < 109938) : DayAt (N + 1) (nextY y m d) (nextM y m d) (nextD y m d) := by
  obtain ⟨⟨h1, h2, h3, h4, h5, h6⟩, e⟩ := h.ok hN
  have e0 := num_eq (y := y) (m := m) (d := d) h3 h4
  unfold nextY nextM nextD
  by_cases c1 : d + 1 > len y m
  · rw [if_pos c1, if_pos c1, if_pos c1]
    have hd : d = len y m := by omega
    by_cases c2 : m + 1 > 12
    · rw [if_pos c2, if_pos c2]
      obtain rfl : m = 12 := by omega
      have hl : d = 31 := by rw [hd]; unfold len; simp
      by_cases c3 : y = 2200
      · subst c3
        rw [hl, num_last] at e
        exact .inr ⟨by omega, by omega, rfl, rfl⟩
      · refine .inl ⟨⟨by omega, by omega, by decide, by decide, by decide, ?_⟩, ?_⟩
        · have := len_lo (y := y + 1) (m := 1) (by decide) (by decide)
          omega
        · rw [num_eq (by decide) (by decide)]
          have h8 := era_succ y
          have h9 : cm (y + 1) 1 = 0 := by unfold cm; simp
          have h10 : cm y 12 + 31 = 365 + lpi y := by
            have : len y 12 = 31 := by unfold len; simp
            unfold cm len mar lpi at *
            simp
            omega
          rw [show y + 1 - 1 = y from by omega]
          omega
    · rw [if_neg c2, if_neg c2]
      refine .inl ⟨⟨h1, h2, by omega, by omega, by decide, ?_⟩, ?_⟩
      · have := len_lo (y := y) (m := m + 1) (by omega) (by omega)
        omega
      · rw [num_eq (by omega) (by omega), cm_succ h3 (by omega)]
        omega
  · rw [if_neg c1, if_neg c1, if_neg c1]
    refine .inl ⟨⟨h1, h2, h3, h4, by omega, by omega⟩, ?_⟩
    rw [num_eq h3 h4]
    omega
/-- Pieces of a function's code: the block of a number; a region with what stands behind it. -/
def blkC (k : Nat) : Code → Option Code
  | .seq a b => match blkC k a with
    | some c => some c
    | none => blkC k b
  | .cond _ a b => match blkC k a with
    | some c => some c
    | none => blkC k b
  | .block id c => if id = k then some (.block id c) else blkC k c
  | .scope c => blkC k c
  | .loop c => blkC k c
  | _ => none
/-- What a write to a row leaves of blocks of another type. -/
theorem blk_out {e n0 : Nat} {ok : Nat → Prop} {w W : World} {v : Value} {xs : List Int} {g : Nat} {cs : Array Value} {t : TypeId} (hR : Kd.R (Kd.int .i64) e w n0 ok v xs) (hk : Kept w W (fun k => some k = v.ownBlock)) (hg : w.heap[g]? = some (.cells cs t (0, 0))) (ht : t ≠ e) : W.heap[g]? = some (.cells cs t (0, 0)) := by
  refine (hk.2 g (heap_lt hg) (fun h => ?_)).trans hg
  obtain ⟨_, inn, ho, _⟩ := hR
  obtain ⟨cs', hc⟩ := own_typed ho g h.symm
  exact ne_type hg hc ht rfl
theorem row_out {e e' n0 n1 : Nat} {ok ok' : Nat → Prop} {w W : World} {v u : Value} {xs ys : List Int} (hR : Kd.R (Kd.int .i64) e w n0 ok v xs) (hk : Kept w W (fun k => some k = v.ownBlock)) (hu : Kd.R (Kd.int .i64) e' w n1 ok' u ys) (ht : e' ≠ e) : Kd.R (Kd.int .i64) e' W n1 ok' u ys :=
  Kd.R_mono (Kd.R_step (Kd.R_bound hu) (fun k hk' _ => by
    obtain ⟨_, _, _, q, hq, cs, hc⟩ := hk'
    have : q = e' := by
      rcases List.mem_cons.1 hq with e | e
      · exact e
      · cases e
    subst this
    exact (blk_out hR hk hc ht).trans hc.symm)) (fun _ h => h.1)
end Go.Proofs.Ytinjbpbpgogdhaa.Own
end
section
namespace Go.Proofs.Ytinjbpbpgogdhaa.Own
open Go.RowKit Go.Shelf Go.Proofs.YtinjbpbpgogdhaaW.PrintWords Go.Proofs.YtinjbpbpgogdhaaW.PrintLast Go.Proofs.YtinjbpbpgogdhaaW.PrintMore
set_option linter.unusedVariables false
set_option linter.unusedSimpArgs false
def TmIn (w0 w : World) (a2 a3 sN below mi : Int) (l out : List Int) (v7 i o : Value) (wr : World) : Prop :=
  ∃ (j : Nat), j ≤ l.length ∧ i = .int .i64 (j : Int) ∧ Hid (Kd.R (Kd.int .i64) 2 wr w0.heap.size (fun _ => True) o (flushG a2 a3 sN below mi l out j)) ∧ Hid (Kept w wr (fun k => some k = v7.ownBlock)) ∧ Hid (Below w0.heap.size w0 wr) ∧ Hid (∀ k, o.ownBlock = some k → some k = v7.ownBlock ∨ w.heap.size ≤ k)
noncomputable def tmB2C : Code := (Try.f9.body.bind (blkC 2)).getD .skip
set_option maxHeartbeats 8000000 in
set_option maxRecDepth 100000 in
/-- ref10.Times' inner loop: of a period's days those that count are put behind the times. -/
theorem tmB2_wp {a0 a1 a2 a3 a8 : Int} {A4 A5 A6 A7 : Option Addr} {c4 c5 c6 c7 : Nat} {l4 l5 l7 : List Int} {l6 : List S58} {w0 w : World} {g1 g8 : Nat} {sN sy sm sd sW below start mi : Int} {l out : List Int} {v7 : Value} {vA : Option Addr} {vc : Nat} {Q : Exit → Act → World → Prop} {z0 z4 z5 z6 z9 z10 z11 z12 z14 z15 z16 z17 z18 z19 z20 z21 z22 z23 z24 z25 z26 z27 z28 z29 z30 z31 z32 z33 z34 z35 z36 z37 z38 z39 z40 z41 z42 z43 z44 z45 z46 z47 z48 z49 z50 z51 z52 z53 z54 z55 z56 z57 z58 z59 z60 z63 z64 z65 z66 z67 z68 z69 z70 z71 z72 z73 z74 z75 z76 z77 z78 z79 z80 z81 z82 z83 z84 z85 z86 z87 z88 z89 z90 z91 z92 z93 z94 z95 z96 z97 z98 z99 z100 z101 z102 z103 z104 z105 z106 z107 z108 z109 z110 z111 z112 z113 z114 z115 z116 z117 z118 z119 z120 z121 z122 z123 z124 z125 z126 z127 z128 z129 z130 z131 z132 z133 z134 z135 z136 z137 z138 z139 z140 z141 z142 z143 z144 z145 : Value}
    (H1 : Hid (w.heap[g1]? = some (.cells #[.int .i64 a0, .int .i64 a1, .int .i64 a2, .int .i64 a3, .slice A4 l4.length c4, .slice A5 l5.length c5, .slice A6 l6.length c6, .slice A7 l7.length c7, .int .i64 a8] 25 (0, 0)))) (H8 : Hid (w.heap[g8]? = some (.cells #[.int .i64 sN, .int .i64 sy, .int .i64 sm, .int .i64 sd, .int .i64 sW] 47 (0, 0)))) (HD : Hid (Kd.R (Kd.int .i64) 3 w w0.heap.size (fun _ => True) (.slice vA l.length vc) l)) (HO : Hid (Kd.R (Kd.int .i64) 2 w w0.heap.size (fun _ => True) v7 out)) (HB : Hid (Below w0.heap.size w0 w))
    (hl : l.length ≤ 1000000) (ho : out.length ≤ 1000000) (HL : Hid (∀ j : Nat, j < l.length → 0 ≤ rd l (j : Int) ∧ rd l (j : Int) ≤ 109938)) (k1 : Int.tmod start 1440 = mi) (hmi : 0 ≤ mi ∧ mi < 1440)
    (HP : Hid (∀ c (a : Act) (N : Option Tmp) (v : Value) (w : World), Q (.panic c) (a.put N v) w → Q (.panic c) a w))
    (HE : Hid (∀ (d14 d15 d62 d63 d64 d65 d66 d67 d68 d69 d70 d71 d72 d73 d74 d75 d76 d77 d78 d79 d80 d81 d82 d83 d84 d85 d86 d87 d88 d89 d90 d91 d92 d93 d94 d95 d96 d97 d98 d99 d100 d101 d102 d103 d104 d105 d106 d107 d108 d109 d110 d111 d112 d113 d114 d115 v : Value) (w' : World), Hid (Kd.R (Kd.int .i64) 2 w' w0.heap.size (fun _ => True) v (flushL a2 a3 sN below mi l out)) → Hid (Kept w w' (fun k => some k = v7.ownBlock)) → Hid (Below w0.heap.size w0 w') → Hid (∀ k, v.ownBlock = some k → some k = v7.ownBlock ∨ w.heap.size ≤ k) → Q .normal ⟨#[z0, .int .i64 start, .int .i64 below, .pointer (some ⟨g1, 0, none⟩), z4, z5, z6, v, .pointer (some ⟨g8, 0, none⟩), z9, z10, z11, z12, .slice vA l.length vc, d14, d15, z16, z17, z18, z19, z20, z21, z22, z23, z24, z25, z26, z27, z28, z29, z30, z31, z32, z33, z34, z35, z36, z37, z38, z39, z40, z41, z42, z43, z44, z45, z46, z47, z48, z49, z50, z51, z52, z53, z54, z55, z56, z57, z58, z59, z60, .int .i64 (l.length : Int), d62, d63, d64, d65, d66, d67, d68, d69, d70, d71, d72, d73, d74, d75, d76, d77, d78, d79, d80, d81, d82, d83, d84, d85, d86, d87, d88, d89, d90, d91, d92, d93, d94, d95, d96, d97, d98, d99, d100, d101, d102, d103, d104, d105, d106, d107, d108, d109, d110, d111, d112, d113, d114, d115, z116, z117, z118, z119, z120, z121, z122, z123, z124, z125, z126, z127, z128, z129, z130, z131, z132, z133, z134, z135, z136, z137, z138, z139, z140, z141, z142, z143, z144, z145], []⟩ w')) :
    Code.wp Try.prog tmB2C Q ⟨#[z0, .int .i64 start, .int .i64 below, .pointer (some ⟨g1, 0, none⟩), z4, z5, z6, v7, .pointer (some ⟨g8, 0, none⟩), z9, z10, z11, z12, .slice vA l.length vc, z14, z15, z16, z17, z18, z19, z20, z21, z22, z23, z24, z25, z26, z27, z28, z29, z30, z31, z32, z33, z34, z35, z36, z37, z38, z39, z40, z41, z42, z43, z44, z45, z46, z47, z48, z49, z50, z51, z52, z53, z54, z55, z56, z57, z58, z59, z60, .int .i64 (l.length : Int), .int .i64 0, z63, z64, z65, z66, z67, z68, z69, z70, z71, z72, z73, z74, z75, z76, z77, z78, z79, z80, z81, z82, z83, z84, z85, z86, z87, z88, z89, z90, z91, z92, z93, z94, z95, z96, z97, z98, z99, z100, z101, z102, z103, z104, z105, z106, z107, z108, z109, z110, z111, z112, z113, z114, z115, z116, z117, z118, z119, z120, z121, z122, z123, z124, z125, z126, z127, z128, z129, z130, z131, z132, z133, z134, z135, z136, z137, z138, z139, z140, z141, z142, z143, z144, z145], []⟩ w := by
  have w0' : wrap64 mi = mi := IntWalk.wrap64_in _ (by omega)
  unfold tmB2C
  conv => arg 2; whnf
  go_wp2
  go_loopw [62, 7] (fun i' o wr => TmIn w0 w a2 a3 sN below mi l out v7 i' o wr) (fun i' _ _ => l.length - (intOf i').toNat)
  case atStart => exact ⟨0, Nat.zero_le _, rfl, HO, Lib.hid (Kept.refl _ _), HB, Lib.hid (fun k hk => .inl hk.symm)⟩
  case round =>
  obtain ⟨j, hj, rfl, hRr, HK, HBr, HOW⟩ := hrel
  obtain ⟨cur, hcur⟩ : ∃ x, x = flushG a2 a3 sN below mi l out j := ⟨_, rfl⟩
  rw [← hcur] at hRr
  have hcl : cur.length ≤ 2000000 := by
    have h1 := flushG_len a2 a3 sN below mi l out j
    rw [hcur]
    omega
  have HCUR := Lib.hid hcur
  clear hcur
  obtain ⟨oA, oc, rfl, hx1, hx2⟩ := Kd.R_reads hRr.out
  clear hx1 hx2
  obtain ⟨jv, hjv⟩ : ∃ a : Int, a = (j : Int) := ⟨_, rfl⟩
  rw [← hjv]
  have HJV := Lib.hid hjv
  have hj0 : 0 ≤ jv := by omega
  have hj2 : jv ≤ 1000000 := by omega
  clear hjv
  by_cases hlt : jv < (l.length : Int)
  · have hltn : Hid (j < l.length) := Lib.hid (by have := HJV.out; omega)
    have HRl : Hid (Kd.R (Kd.int .i64) 3 wr w0.heap.size (fun _ => True) (.slice vA l.length vc) l) := Lib.hid (row_out HO.out HK.out HD.out (by decide))
    have hb := HL.out j hltn.out
    rw [← HJV.out] at hb
    obtain ⟨ad, rfl, hc1⟩ := Kd.at_int (Kd.R_reads' HRl.out).2.2 jv (by omega) (by omega)
    obtain ⟨x, hx⟩ : ∃ x, x = rd l jv := ⟨_, rfl⟩
    have hc1' := hc1
    rw [← hx] at hc1 hb
    have HX := Lib.hid hx
    clear hx hc1'
    have Hr1 := Lib.hid (blk_out HO.out HK.out H1.out (by decide))
    have Hr8 := Lib.hid (blk_out HO.out HK.out H8.out (by decide))
    obtain ⟨q0, q1, q2, q3, q4, q5, q6, q7, q8⟩ := cells9 Hr1.out
    obtain ⟨s0, s1, s2, s3, s4⟩ := cells5 Hr8.out
    clear q0 q1 q4 q5 q6 q7 q8 s1 s2 s3 s4
    have w1 : wrap64 (x * 1440) = x * 1440 := IntWalk.wrap64_in _ (by clear w0' k1; omega)
    have w2 : wrap64 (x * 1440 + mi) = x * 1440 + mi := by clear w1 w0' k1; exact IntWalk.wrap64_in _ (by omega)
    have w4 : wrap64 (jv + 1) = jv + 1 := by clear w1 w2 w0' k1; exact IntWalk.wrap64_in _ (by omega)
    have HJN : Hid (((j + 1 : Nat) : Int) = jv + 1) := Lib.hid (by have := HJV.out; clear w1 w2 w4 w0' k1; omega)
    clear hj hb
    have hxx : Hid (x = rd l (j : Int)) := Lib.hid (by rw [← HJV.out]; exact HX.out)
    go_upto_region 19 with (fail)
    rw [w2]
    cases hsk : skipB a2 a3 sN below x (x * 1440 + mi) (cur.length : Int) with
    | true =>
      refine tm19_wp (sk := true) hsk.symm q2 q3 s0 hj0 hlt hc1 (Lib.hid ?_)
      intro d73 d74 d75 d76 d77 d78 d79 d80 d81 d82 d83 d84 d85 d86 d87 d88 d89 d90 d91 d92 d93 d94 d95 d96 d97 d98 d99 d100 d101 d102 d103 d104 d105 d106 d107 d108 d109 w5 HB5
      have HS : Hid (flushG a2 a3 sN below mi l out (j + 1) = flushG a2 a3 sN below mi l out j) := Lib.hid (flushG_no (by rw [← hxx.out, ← HCUR.out]; exact hsk))
      clear hsk hc1
      have HR5 := Lib.hid (Kd.R_below hRr.out HB5.out)
      have HBW5 := Lib.hid (HBr.out.trans (HB5.out.mono HBr.out.size))
      have HK5 := Lib.hid (HK.out.below HB5.out)
      go_wp2
      go_roundw
      case rel => exact ⟨j + 1, hltn.out, by rw [HJN.out], Lib.hid (by rw [HS.out, ← HCUR.out]; exact HR5.out), HK5, HBW5, HOW⟩
      case measure =>
        (try rw [w4])
        clear w1 w2 w4 w0' k1
        simp only [intOf]
        omega
    | false =>
      refine tm19_wp (sk := false) hsk.symm q2 q3 s0 hj0 hlt hc1 (Lib.hid ?_)
      intro d73 d74 d75 d76 d77 d78 d79 d80 d81 d82 d83 d84 d85 d86 d87 d88 d89 d90 d91 d92 d93 d94 d95 d96 d97 d98 d99 d100 d101 d102 d103 d104 d105 d106 d107 d108 d109 w5 HB5
      have HS : Hid (flushG a2 a3 sN below mi l out (j + 1) = flushG a2 a3 sN below mi l out j ++ [rd l (j : Int) * 1440 + mi]) := Lib.hid (flushG_yes (by rw [← hxx.out, ← HCUR.out]; exact hsk))
      clear hsk hc1
      have HR5 := Lib.hid (Kd.R_below hRr.out HB5.out)
      have HBW5 := Lib.hid (HBr.out.trans (HB5.out.mono HBr.out.size))
      have HK5 := Lib.hid (HK.out.below HB5.out)
      have HSZ := Lib.hid HK5.out.1
      go_wp2_with (((with_reducible refine gate_builtin (b := .append) (xs := #[.tmp 111, .tmp 113]) rfl ?_); (try (refine gate_guard (by rfl) ?_; dsimp only)); at_builtin; refine Kd.R_append (w0 := w0) (Kd.int .i64) w0.heap.size rfl (.tmp 111) (.tmp 113) 28 2 (.int .i64 0) 8 rfl Try.underlying28 info2_ rfl (by decide) (by decide) (.slice oA cur.length oc) cur (x * 1440 + mi) [.int .i64 (x * 1440 + mi)] (fun _ => True) (fun _ => False) rfl rfl rfl (fun _ h => h.elim) (fun _ _ => trivial) HR5.out HBW5.out HBW5.out.size (by clear w1 w2 k1; omega) ?_; intro v1 w6 hR6 hb6 hg6 hat6; obtain ⟨cur2, hcur2⟩ : ∃ y, y = cur ++ [x * 1440 + mi] := ⟨_, rfl⟩; rw [← hcur2] at hR6; have HC2 := Lib.hid hcur2; clear hcur2; have HR6 := Lib.hid hR6; have HB6 := Lib.hid hb6; have HG6 := Lib.hid hg6; have HAT := Lib.hid hat6; clear hR6 hb6 hg6 hat6; obtain ⟨A1, c1_, rfl, hx1, hx2⟩ := Kd.R_reads HR6.out; clear hx1 hx2))
      go_roundw
      case rel => exact ⟨j + 1, hltn.out, by rw [HJN.out], Lib.hid (by rw [HS.out, ← HCUR.out, ← hxx.out, ← HC2.out]; exact HR6.out), Lib.hid (Kept.of_grown HG6.out HK5.out (fun k hk => HOW.out k hk)), HB6, Lib.hid (own_step HOW.out HAT.out HSZ.out)⟩
      case measure =>
        (try rw [w4])
        clear w1 w2 w4 w0' k1
        simp only [intOf]
        omega
  · have hje : j = l.length := by have := HJV.out; omega
    subst hje
    go_wp2
    exact HE.out _ _ _ _ _ _ _ _ _ _ _ _ _ _ _ _ _ _ _ _ _ _ _ _ _ _ _ _ _ _ _ _ _ _ _ _ _ _ _ _ _ _ _ _ _ _ _ _ _ _ _ _ _ _ _ _ _ _ (Lib.hid (by unfold flushL; rw [← HCUR.out]; exact hRr.out)) HK HBr HOW
end Go.Proofs.Ytinjbpbpgogdhaa.Own
end
