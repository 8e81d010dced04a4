-- own text: texts of this session merged by a program of it (merge.py), declarations that nothing reaches left out (prune.py)
import Derived.Test.YtinjbpbpgogdhaaHa29
section
namespace Go.Proofs.Ytinjbpbpgogdhaa.Own
open Go.RowKit Go.Shelf Go.Proofs.YtinjbpbpgogdhaaW.PrintWords Go.Proofs.YtinjbpbpgogdhaaW.PrintLast Go.Proofs.YtinjbpbpgogdhaaW.PrintMore
set_option linter.unusedVariables false
set_option linter.unusedSimpArgs false
theorem boxes2 (w : World) (o1 o2 : Obj) : ((w.alloc o1).alloc o2).heap[w.heap.size]? = some o1 ∧ ((w.alloc o1).alloc o2).heap[w.heap.size + 1]? = some o2 ∧ Below w.heap.size w ((w.alloc o1).alloc o2) := by
  have e1 := World.alloc_heap_new w o1
  have e2 := World.alloc_heap_new (w.alloc o1) o2
  simp only [alloc_size] at e2
  exact ⟨keep_alloc e1 _, e2, below_new_.alloc (by simp only [alloc_size]; omega) _⟩
theorem cells3 {W : World} {g : Nat} {a b c : Value} {t : TypeId} (h : W.heap[g]? = some (.cells #[a, b, c] t (0, 0))) : W.cell? ⟨g, 0, none⟩ = some a ∧ W.cell? ⟨g, 1, none⟩ = some b ∧ W.cell? ⟨g, 2, none⟩ = some c :=
  ⟨cell_eq (blk_cell h 0) rfl, cell_eq (blk_cell h 1) rfl, cell_eq (blk_cell h 2) rfl⟩
theorem set5 {W : World} {g : Nat} {a b c d e z0 z1 z2 z3 z4 : Value} {t : TypeId} (h : W.heap[g]? = some (.cells #[z0, z1, z2, z3, z4] t (0, 0))) : (((((W.setCell ⟨g, 0, none⟩ a).setCell ⟨g, 1, none⟩ b).setCell ⟨g, 2, none⟩ c).setCell ⟨g, 3, none⟩ d).setCell ⟨g, 4, none⟩ e).heap[g]? = some (.cells #[a, b, c, d, e] t (0, 0)) :=
  blk_set (blk_set (blk_set (blk_set (blk_set h 0 a) 1 b) 2 c) 3 d) 4 e
noncomputable def nx3C : Code := (Try.f19.body.bind (regC 3)).getD .skip
set_option maxHeartbeats 4000000 in
set_option maxRecDepth 100000 in
theorem nx3_wp {w : World} {g3 : Nat} {y m d L : Int} {Q : Exit → Act → World → Prop} {c0 c1 c2 c4 c5 c6 c7 c8 c9 c10 c11 c12 c13 c14 c15 c16 c17 c18 c19 c20 c21 c22 c23 c24 c25 c26 c27 c28 c29 c30 c31 c32 c33 c34 c35 c36 c37 c38 c39 : Value}
    (H3 : Hid (w.heap[g3]? = some (.cells #[.int .i64 y, .int .i64 m, .int .i64 d] 37 (0, 0)))) (HLN : Hid (∀ W, Calls Try.prog 24 #[.int .i64 y, .int .i64 m] W fun e w' => e = .returned (.int .i64 L) ∧ Below W.heap.size W w'))
    (HP : Hid (∀ c (a : Act) (N : Option Tmp) (v : Value) (w : World), Q (.panic c) (a.put N v) w → Q (.panic c) a w)) (HE : Hid (∀ (d10 d11 d12 d13 d14 d15 d16 : Value) (w' : World), Hid (Below w.heap.size w w') → Q .normal ⟨#[c0, c1, c2, .pointer (some ⟨g3, 0, none⟩), c4, c5, c6, c7, c8, c9, d10, d11, d12, d13, d14, d15, d16, .bool (decide (L < d)), c18, c19, c20, c21, c22, c23, c24, c25, c26, c27, c28, c29, c30, c31, c32, c33, c34, c35, c36, c37, c38, c39], []⟩ w')) :
    Code.wp Try.prog nx3C Q ⟨#[c0, c1, c2, .pointer (some ⟨g3, 0, none⟩), c4, c5, c6, c7, c8, c9, c10, c11, c12, c13, c14, c15, c16, c17, c18, c19, c20, c21, c22, c23, c24, c25, c26, c27, c28, c29, c30, c31, c32, c33, c34, c35, c36, c37, c38, c39], []⟩ w := by
  unfold nx3C
  conv => arg 2; whnf
  refine start_ (n := 8) (S := fun w' => w'.cell? ⟨g3, 0, none⟩ = some (.int .i64 y) ∧ w'.cell? ⟨g3, 1, none⟩ = some (.int .i64 m) ∧ w'.cell? ⟨g3, 2, none⟩ = some (.int .i64 d)) (ds := []) #[false, false, false, false, false, false, false, false] (by kernel_rfl) rfl rfl ?_ (fun hHeld => ?_)
  · exact ⟨cell_eq (blk_cell (keep_below ((Below.refl w.heap.size w).drew) H3.out) 0) rfl, cell_eq (blk_cell (keep_below ((Below.refl w.heap.size w).drew) H3.out) 1) rfl, cell_eq (blk_cell (keep_below ((Below.refl w.heap.size w).drew) H3.out) 2) rfl⟩
  have HW3 := Lib.hid ((Below.refl w.heap.size w).drew)
  generalize w.drew = w3 at hHeld HW3 ⊢
  refine pure_ (i := 0) (N := some 10) (v := ?_) (a' := ?_) #[true, false, false, false, false, false, false, false] rfl rfl (by kernel_rfl) (fun c a w h => HP.out c a _ _ w h) (Or.inl ⟨by rfl, ?_⟩) ?_ ?_
  rotate_left
  · intro w'
    go_simp
    with_reducible rfl
  rotate_left
  · simp only [Act.put, List.setIfInBounds_toArray, List.set_cons_zero, List.set_cons_succ, i64_w, i32_w]
    rfl
  refine take_ (i := 1) (N := some 11) (v := ?_) (a' := ?_) #[true, true, false, false, false, false, false, false] rfl rfl (by kernel_rfl) (fun c a w h => HP.out c a _ _ w h) (Or.inl ⟨by rfl, ?_⟩) hHeld ?_ ?_
  rotate_left
  · rintro w' ⟨s0, s1, s2⟩
    go_simp
    with_reducible rfl
  rotate_left
  · simp only [Act.put, List.setIfInBounds_toArray, List.set_cons_zero, List.set_cons_succ, i64_w, i32_w]
    rfl
  refine pure_ (i := 2) (N := some 12) (v := ?_) (a' := ?_) #[true, true, true, false, false, false, false, false] rfl rfl (by kernel_rfl) (fun c a w h => HP.out c a _ _ w h) (Or.inl ⟨by rfl, ?_⟩) ?_ ?_
  rotate_left
  · intro w'
    go_simp
    with_reducible rfl
  rotate_left
  · simp only [Act.put, List.setIfInBounds_toArray, List.set_cons_zero, List.set_cons_succ, i64_w, i32_w]
    rfl
  refine take_ (i := 3) (N := some 13) (v := ?_) (a' := ?_) #[true, true, true, true, false, false, false, false] rfl rfl (by kernel_rfl) (fun c a w h => HP.out c a _ _ w h) (Or.inl ⟨by rfl, ?_⟩) hHeld ?_ ?_
  rotate_left
  · rintro w' ⟨s0, s1, s2⟩
    go_simp
    with_reducible rfl
  rotate_left
  · simp only [Act.put, List.setIfInBounds_toArray, List.set_cons_zero, List.set_cons_succ, i64_w, i32_w]
    rfl
  refine pure_ (i := 4) (N := some 14) (v := ?_) (a' := ?_) #[true, true, true, true, true, false, false, false] rfl rfl (by kernel_rfl) (fun c a w h => HP.out c a _ _ w h) (Or.inl ⟨by rfl, ?_⟩) ?_ ?_
  rotate_left
  · intro w'
    go_simp
    with_reducible rfl
  rotate_left
  · simp only [Act.put, List.setIfInBounds_toArray, List.set_cons_zero, List.set_cons_succ, i64_w, i32_w]
    rfl
  refine take_ (i := 5) (N := some 15) (v := ?_) (a' := ?_) #[true, true, true, true, true, true, false, false] rfl rfl (by kernel_rfl) (fun c a w h => HP.out c a _ _ w h) (Or.inl ⟨by rfl, ?_⟩) hHeld ?_ ?_
  rotate_left
  · rintro w' ⟨s0, s1, s2⟩
    go_simp
    with_reducible rfl
  rotate_left
  · simp only [Act.put, List.setIfInBounds_toArray, List.set_cons_zero, List.set_cons_succ, i64_w, i32_w]
    rfl
  refine one_ (i := 6) (N := some 16) #[true, true, true, true, true, true, true, false] rfl rfl (by kernel_rfl) (by decide) (fun K hK => ?_)
  refine goes_ Try.func24 (by kernel_rfl) rfl #[.int .i64 y, .int .i64 m] (by rfl) rfl rfl (by (try simp only [List.map_toArray, List.map_cons, List.map_nil]); first | done | rfl) ?_
  refine (HLN.out w3).mono ?_
  rintro e w4 ⟨rfl, hb⟩
  refine ⟨_, rfl, ?_⟩
  have HW4 := Lib.hid (HW3.out.trans (hb.mono HW3.out.size))
  refine hK.out _ _ ⟨cell_eq (blk_cell (keep_below (HW4.out) H3.out) 0) rfl, cell_eq (blk_cell (keep_below (HW4.out) H3.out) 1) rfl, cell_eq (blk_cell (keep_below (HW4.out) H3.out) 2) rfl⟩ (fun hHeld => ?_)
  clear hK K hb
  refine pure_ (i := 7) (N := some 17) (v := ?_) (a' := ?_) #[true, true, true, true, true, true, true, true] rfl rfl (by kernel_rfl) (fun c a w h => HP.out c a _ _ w h) (Or.inl ⟨by rfl, ?_⟩) ?_ ?_
  rotate_left
  · intro w'
    go_simp
    with_reducible rfl
  rotate_left
  · simp only [Act.put, List.setIfInBounds_toArray, List.set_cons_zero, List.set_cons_succ, i64_w, i32_w]
    rfl
  refine done_ (by kernel_rfl) ?_
  exact HE.out _ _ _ _ _ _ _ _ HW4

/-- The date behind one, told. -/
def nextY (y m d : Int) : Int := if d + 1 > len y m then (if m + 1 > 12 then y + 1 else y) else y
def nextM (y m d : Int) : Int := if d + 1 > len y m then (if m + 1 > 12 then 1 else m + 1) else m
def nextD (y m d : Int) : Int := if d + 1 > len y m then 1 else d + 1
set_option maxHeartbeats 8000000 in
set_option maxRecDepth 100000 in
/-- ref10.D.Next. -/
theorem rNext_any (N y m d wd : Int) (w : World) (hN : 0 ≤ N ∧ N ≤ 200000) (hy : 0 ≤ y ∧ y ≤ 100000) (hm : 1 ≤ m ∧ m ≤ 12) (hd : 1 ≤ d ∧ d ≤ 31) (hw : 0 ≤ wd ∧ wd ≤ 6) :
    Calls Try.prog 19 #[.agg #[.int .i64 N, .int .i64 y, .int .i64 m, .int .i64 d, .int .i64 wd]] w fun e w' => e = .returned (.agg #[.int .i64 (N + 1), .int .i64 (nextY y m d), .int .i64 (nextM y m d), .int .i64 (nextD y m d), .int .i64 ((wd + 1) % 7)]) ∧ Below w.heap.size w w' := by
  have HLN := Lib.hid (fun W => vespersref01_Length.calls 5 y m _ W (ref_Length_f (by decide) y m))
  obtain ⟨Y, hY⟩ : ∃ r, r = nextY y m d := ⟨_, rfl⟩
  obtain ⟨M, hM⟩ : ∃ r, r = nextM y m d := ⟨_, rfl⟩
  obtain ⟨D, hD⟩ : ∃ r, r = nextD y m d := ⟨_, rfl⟩
  rw [← hY, ← hM, ← hD]
  unfold nextY at hY
  unfold nextM at hM
  unfold nextD at hD
  obtain ⟨long, hlong⟩ : ∃ x, x = len y m := ⟨_, rfl⟩
  rw [← hlong] at HLN hY hM hD
  have HDAT := Lib.hid (And.intro hY (And.intro hM hD))
  clear hlong hY hM hD
  have k1 : wrap64 (d + 1) = d + 1 := IntWalk.wrap64_in _ (by omega)
  have k2 : wrap64 (m + 1) = m + 1 := by clear k1; exact IntWalk.wrap64_in _ (by omega)
  have k3 : wrap64 (y + 1) = y + 1 := by clear k1 k2; exact IntWalk.wrap64_in _ (by omega)
  have k4 : wrap64 (N + 1) = N + 1 := by clear k1 k2 k3; exact IntWalk.wrap64_in _ (by omega)
  have k5 : wrap64 (wd + 1) = wd + 1 := by clear k1 k2 k3 k4; exact IntWalk.wrap64_in _ (by omega)
  obtain ⟨V, hV⟩ : ∃ x, x = (wd + 1) % 7 := ⟨_, rfl⟩
  have hVb : 0 ≤ V ∧ V ≤ 6 := by clear k1 k2 k3 k4 k5; omega
  have k6 : Int.tmod (wd + 1) 7 = V := by clear k1 k2 k3 k4 k5; rw [hV]; exact Int.tmod_eq_emod_of_nonneg (by omega)
  have k7 : wrap64 V = V := by clear k1 k2 k3 k4 k5 k6; exact IntWalk.wrap64_in _ (by omega)
  rw [← hV]
  clear hV
  go_enter Try.func19, Try.ntmps19
  go_upto_region 1 with (fail)
  have HX := boxes2 w (.cells #[.int .i64 N, .int .i64 y, .int .i64 m, .int .i64 d, .int .i64 wd] 47) (.cells #[.int .i64 0, .int .i64 0, .int .i64 0, .int .i64 0, .int .i64 0] 47)
  generalize ((w.alloc (.cells #[.int .i64 N, .int .i64 y, .int .i64 m, .int .i64 d, .int .i64 wd] 47)).alloc (.cells #[.int .i64 0, .int .i64 0, .int .i64 0, .int .i64 0, .int .i64 0] 47)) = w1 at HX ⊢
  obtain ⟨hx1, hx2, hxb⟩ := HX
  have H1 := Lib.hid hx1
  have H2 := Lib.hid hx2
  have HB1 := Lib.hid hxb
  clear hx1 hx2 hxb
  obtain ⟨g1, hg1⟩ : ∃ x, x = w.heap.size := ⟨_, rfl⟩
  rw [← hg1] at H1 H2 ⊢
  obtain ⟨g2, hg2⟩ : ∃ x, x = g1 + 1 := ⟨_, rfl⟩
  rw [← hg2] at H2 ⊢
  have HG1 := Lib.hid hg1
  have HG2 : Hid (w.heap.size ≤ g2) := Lib.hid (by omega)
  clear hg1 hg2
  obtain ⟨d0, d1, d2, d3, d4⟩ := cells5 H1.out
  go_upto_region 2 with (fail)
  have HA3 := Lib.hid (World.alloc_heap_new w1 (.cells #[.int .i64 y, .int .i64 m, .int .i64 d] 37))
  have HA1 := Lib.hid (keep_alloc H1.out (.cells #[.int .i64 y, .int .i64 m, .int .i64 d] 37))
  have HA2 := Lib.hid (keep_alloc H2.out (.cells #[.int .i64 y, .int .i64 m, .int .i64 d] 37))
  have HAB := Lib.hid (HB1.out.alloc HB1.out.size (.cells #[.int .i64 y, .int .i64 m, .int .i64 d] 37))
  have HG3 := Lib.hid HB1.out.size
  obtain ⟨g3, hg3⟩ : ∃ x, x = w1.heap.size := ⟨_, rfl⟩
  rw [← hg3] at HA3 HG3 ⊢
  clear hg3
  generalize (w1.alloc (.cells #[.int .i64 y, .int .i64 m, .int .i64 d] 37)) = w2 at HA3 HA1 HA2 HAB ⊢
  clear H1 H2 HB1
  have H1 := HA1
  have H2 := HA2
  have H3 := HA3
  have HB := HAB
  clear HA1 HA2 HA3 HAB d0 d1 d2 d3 d4
  obtain ⟨u0, u1, u2⟩ := cells3 H3.out
  have d0 := 0
  have d1 := 0
  have d2 := 0
  have d3 := 0
  have d4 := 0
  have f3 := blk_frozen H3.out 2
  clear u0 u1 u2
  obtain ⟨u0, u1, u2⟩ := cells3 H3.out
  go_upto_region 3 with (fail)
  have HT3 : Hid ((w2.setCell ⟨g3, 2, none⟩ (.int .i64 (d + 1))).heap[g3]? = some (.cells #[.int .i64 y, .int .i64 m, .int .i64 (d + 1)] 37 (0, 0))) := Lib.hid (blk_set H3.out 2 _)
  have HU3 : Hid ((w2.setCell ⟨g3, 2, none⟩ (.int .i64 (d + 1))).heap[g1]? = some (.cells #[.int .i64 N, .int .i64 y, .int .i64 m, .int .i64 d, .int .i64 wd] 47 (0, 0))) := Lib.hid (blk_far H1.out (ne_type H1.out H3.out (by decide)) _)
  have HV3 : Hid ((w2.setCell ⟨g3, 2, none⟩ (.int .i64 (d + 1))).heap[g2]? = some (.cells #[.int .i64 0, .int .i64 0, .int .i64 0, .int .i64 0, .int .i64 0] 47 (0, 0))) := Lib.hid (blk_far H2.out (ne_type H2.out H3.out (by decide)) _)
  have HX3 : Hid (Below w.heap.size w (w2.setCell ⟨g3, 2, none⟩ (.int .i64 (d + 1)))) := Lib.hid (HB.out.setCell HG3.out _)
  generalize w2.setCell ⟨g3, 2, none⟩ (.int .i64 (d + 1)) = w3 at HT3 HU3 HV3 HX3 ⊢
  clear H1 H2 H3 HB f3
  have H1 := HU3
  have H2 := HV3
  have H3 := HT3
  have HB := HX3
  clear HU3 HV3 HT3 HX3
  clear d0 d1 d2 d3 d4
  refine nx3_wp H3 HLN (Lib.hid fun c a N v w h => by cases N <;> exact h) (Lib.hid ?_)
  intro d10 d11 d12 d13 d14 d15 d16 w5 HB5
  have H15 := Lib.hid (keep_below HB5.out H1.out)
  have H25 := Lib.hid (keep_below HB5.out H2.out)
  have H35 := Lib.hid (keep_below HB5.out H3.out)
  have HB6 := Lib.hid (HB.out.trans (HB5.out.mono HB.out.size))
  clear H1 H2 H3 HB HB5
  have H1 := H15
  have H2 := H25
  have H3 := H35
  have HB := HB6
  clear H15 H25 H35 HB6 u0 u1 u2
  obtain ⟨u0, u1, u2⟩ := cells3 H3.out
  by_cases c1 : long < d + 1
  · by_cases c2 : 12 < m + 1
    · have HA : Hid (Y = y + 1 ∧ M = 1 ∧ D = 1) := Lib.hid (by obtain ⟨a, b, c⟩ := HDAT.out; rw [if_pos c1, if_pos c2] at a b; rw [if_pos c1] at c; exact ⟨a, b, c⟩)
      have c1d : decide (long < d + 1) = true := decide_eq_true c1
      rw [c1d]
      have f6 := blk_frozen H3.out 2
      clear u0 u1 u2
      obtain ⟨u0, u1, u2⟩ := cells3 H3.out
      go_upto_region 5 with (fail)
      have HT6 : Hid ((w5.setCell ⟨g3, 2, none⟩ (.int .i64 1)).heap[g3]? = some (.cells #[.int .i64 y, .int .i64 m, .int .i64 1] 37 (0, 0))) := Lib.hid (blk_set H3.out 2 _)
      have HU6 : Hid ((w5.setCell ⟨g3, 2, none⟩ (.int .i64 1)).heap[g1]? = some (.cells #[.int .i64 N, .int .i64 y, .int .i64 m, .int .i64 d, .int .i64 wd] 47 (0, 0))) := Lib.hid (blk_far H1.out (ne_type H1.out H3.out (by decide)) _)
      have HV6 : Hid ((w5.setCell ⟨g3, 2, none⟩ (.int .i64 1)).heap[g2]? = some (.cells #[.int .i64 0, .int .i64 0, .int .i64 0, .int .i64 0, .int .i64 0] 47 (0, 0))) := Lib.hid (blk_far H2.out (ne_type H2.out H3.out (by decide)) _)
      have HX6 : Hid (Below w.heap.size w (w5.setCell ⟨g3, 2, none⟩ (.int .i64 1))) := Lib.hid (HB.out.setCell HG3.out _)
      generalize w5.setCell ⟨g3, 2, none⟩ (.int .i64 1) = w6 at HT6 HU6 HV6 HX6 ⊢
      clear H1 H2 H3 HB f6
      have H1 := HU6
      have H2 := HV6
      have H3 := HT6
      have HB := HX6
      clear HU6 HV6 HT6 HX6
      have f7 := blk_frozen H3.out 1
      clear u0 u1 u2
      obtain ⟨u0, u1, u2⟩ := cells3 H3.out
      go_upto_region 6 with (fail)
      have HT7 : Hid ((w6.setCell ⟨g3, 1, none⟩ (.int .i64 (m + 1))).heap[g3]? = some (.cells #[.int .i64 y, .int .i64 (m + 1), .int .i64 1] 37 (0, 0))) := Lib.hid (blk_set H3.out 1 _)
      have HU7 : Hid ((w6.setCell ⟨g3, 1, none⟩ (.int .i64 (m + 1))).heap[g1]? = some (.cells #[.int .i64 N, .int .i64 y, .int .i64 m, .int .i64 d, .int .i64 wd] 47 (0, 0))) := Lib.hid (blk_far H1.out (ne_type H1.out H3.out (by decide)) _)
      have HV7 : Hid ((w6.setCell ⟨g3, 1, none⟩ (.int .i64 (m + 1))).heap[g2]? = some (.cells #[.int .i64 0, .int .i64 0, .int .i64 0, .int .i64 0, .int .i64 0] 47 (0, 0))) := Lib.hid (blk_far H2.out (ne_type H2.out H3.out (by decide)) _)
      have HX7 : Hid (Below w.heap.size w (w6.setCell ⟨g3, 1, none⟩ (.int .i64 (m + 1)))) := Lib.hid (HB.out.setCell HG3.out _)
      generalize w6.setCell ⟨g3, 1, none⟩ (.int .i64 (m + 1)) = w7 at HT7 HU7 HV7 HX7 ⊢
      clear H1 H2 H3 HB f7
      have H1 := HU7
      have H2 := HV7
      have H3 := HT7
      have HB := HX7
      clear HU7 HV7 HT7 HX7
      have f8 := blk_frozen H3.out 1
      clear u0 u1 u2
      obtain ⟨u0, u1, u2⟩ := cells3 H3.out
      go_upto_region 8 with (fail)
      have HT8 : Hid ((w7.setCell ⟨g3, 1, none⟩ (.int .i64 1)).heap[g3]? = some (.cells #[.int .i64 y, .int .i64 1, .int .i64 1] 37 (0, 0))) := Lib.hid (blk_set H3.out 1 _)
      have HU8 : Hid ((w7.setCell ⟨g3, 1, none⟩ (.int .i64 1)).heap[g1]? = some (.cells #[.int .i64 N, .int .i64 y, .int .i64 m, .int .i64 d, .int .i64 wd] 47 (0, 0))) := Lib.hid (blk_far H1.out (ne_type H1.out H3.out (by decide)) _)
      have HV8 : Hid ((w7.setCell ⟨g3, 1, none⟩ (.int .i64 1)).heap[g2]? = some (.cells #[.int .i64 0, .int .i64 0, .int .i64 0, .int .i64 0, .int .i64 0] 47 (0, 0))) := Lib.hid (blk_far H2.out (ne_type H2.out H3.out (by decide)) _)
      have HX8 : Hid (Below w.heap.size w (w7.setCell ⟨g3, 1, none⟩ (.int .i64 1))) := Lib.hid (HB.out.setCell HG3.out _)
      generalize w7.setCell ⟨g3, 1, none⟩ (.int .i64 1) = w8 at HT8 HU8 HV8 HX8 ⊢
      clear H1 H2 H3 HB f8
      have H1 := HU8
      have H2 := HV8
      have H3 := HT8
      have HB := HX8
      clear HU8 HV8 HT8 HX8
      have f9 := blk_frozen H3.out 0
      clear u0 u1 u2
      obtain ⟨u0, u1, u2⟩ := cells3 H3.out
      go_upto_region 9 with (fail)
      have HT9 : Hid ((w8.setCell ⟨g3, 0, none⟩ (.int .i64 (y + 1))).heap[g3]? = some (.cells #[.int .i64 (y + 1), .int .i64 1, .int .i64 1] 37 (0, 0))) := Lib.hid (blk_set H3.out 0 _)
      have HU9 : Hid ((w8.setCell ⟨g3, 0, none⟩ (.int .i64 (y + 1))).heap[g1]? = some (.cells #[.int .i64 N, .int .i64 y, .int .i64 m, .int .i64 d, .int .i64 wd] 47 (0, 0))) := Lib.hid (blk_far H1.out (ne_type H1.out H3.out (by decide)) _)
      have HV9 : Hid ((w8.setCell ⟨g3, 0, none⟩ (.int .i64 (y + 1))).heap[g2]? = some (.cells #[.int .i64 0, .int .i64 0, .int .i64 0, .int .i64 0, .int .i64 0] 47 (0, 0))) := Lib.hid (blk_far H2.out (ne_type H2.out H3.out (by decide)) _)
      have HX9 : Hid (Below w.heap.size w (w8.setCell ⟨g3, 0, none⟩ (.int .i64 (y + 1)))) := Lib.hid (HB.out.setCell HG3.out _)
      generalize w8.setCell ⟨g3, 0, none⟩ (.int .i64 (y + 1)) = w9 at HT9 HU9 HV9 HX9 ⊢
      clear H1 H2 H3 HB f9
      have H1 := HU9
      have H2 := HV9
      have H3 := HT9
      have HB := HX9
      clear HU9 HV9 HT9 HX9
      clear u0 u1 u2
      obtain ⟨u0, u1, u2⟩ := cells3 H3.out
      obtain ⟨d0, d1, d2, d3, d4⟩ := cells5 H1.out
      have f20 := blk_frozen H2.out 0
      have f21 := blk_frozen H2.out 1
      have f22 := blk_frozen H2.out 2
      have f23 := blk_frozen H2.out 3
      have f24 := blk_frozen H2.out 4
      obtain ⟨z0, z1, z2, z3, z4⟩ := cells5 H2.out
      go_wp2
      have HZ := set5 (a := .int .i64 (N + 1)) (b := .int .i64 (y + 1)) (c := .int .i64 1) (d := .int .i64 1) (e := .int .i64 V) H2.out
      have HZB : Below w.heap.size w (((((w9.setCell ⟨g2, 0, none⟩ (.int .i64 (N + 1))).setCell ⟨g2, 1, none⟩ (.int .i64 (y + 1))).setCell ⟨g2, 2, none⟩ (.int .i64 1)).setCell ⟨g2, 3, none⟩ (.int .i64 1)).setCell ⟨g2, 4, none⟩ (.int .i64 V)) := ((((HB.out.setCell HG2.out _).setCell HG2.out _).setCell HG2.out _).setCell HG2.out _).setCell HG2.out _
      clear z0 z1 z2 z3 z4 d0 d1 d2 d3 d4 u0 u1 u2 f20 f21 f22 f23 f24
      generalize (((((w9.setCell ⟨g2, 0, none⟩ (.int .i64 (N + 1))).setCell ⟨g2, 1, none⟩ (.int .i64 (y + 1))).setCell ⟨g2, 2, none⟩ (.int .i64 1)).setCell ⟨g2, 3, none⟩ (.int .i64 1)).setCell ⟨g2, 4, none⟩ (.int .i64 V)) = wz at HZ HZB ⊢
      have HZH := Lib.hid HZ
      clear HZ
      have HZX := Lib.hid HZB
      clear HZB
      obtain ⟨ha, hb, hc⟩ := HA.out
      have HY := Lib.hid ha
      have HM := Lib.hid hb
      have HD := Lib.hid hc
      clear ha hb hc
      refine bodyPost_ret (results_cell_row rfl _ _ g2 47 #[.int .i64 (N + 1), .int .i64 (y + 1), .int .i64 1, .int .i64 1, .int .i64 V] (0, 0) _ rfl HZH.out Try.underlying47 rfl (by kernel_rfl)) rfl ?_
      rw [HY.out, HM.out, HD.out]
      exact ⟨rfl, HZX.out⟩
    · have HA : Hid (Y = y ∧ M = m + 1 ∧ D = 1) := Lib.hid (by obtain ⟨a, b, c⟩ := HDAT.out; rw [if_pos c1, if_neg c2] at a b; rw [if_pos c1] at c; exact ⟨a, b, c⟩)
      have c1d : decide (long < d + 1) = true := decide_eq_true c1
      rw [c1d]
      have f6 := blk_frozen H3.out 2
      clear u0 u1 u2
      obtain ⟨u0, u1, u2⟩ := cells3 H3.out
      go_upto_region 5 with (fail)
      have HT6 : Hid ((w5.setCell ⟨g3, 2, none⟩ (.int .i64 1)).heap[g3]? = some (.cells #[.int .i64 y, .int .i64 m, .int .i64 1] 37 (0, 0))) := Lib.hid (blk_set H3.out 2 _)
      have HU6 : Hid ((w5.setCell ⟨g3, 2, none⟩ (.int .i64 1)).heap[g1]? = some (.cells #[.int .i64 N, .int .i64 y, .int .i64 m, .int .i64 d, .int .i64 wd] 47 (0, 0))) := Lib.hid (blk_far H1.out (ne_type H1.out H3.out (by decide)) _)
      have HV6 : Hid ((w5.setCell ⟨g3, 2, none⟩ (.int .i64 1)).heap[g2]? = some (.cells #[.int .i64 0, .int .i64 0, .int .i64 0, .int .i64 0, .int .i64 0] 47 (0, 0))) := Lib.hid (blk_far H2.out (ne_type H2.out H3.out (by decide)) _)
      have HX6 : Hid (Below w.heap.size w (w5.setCell ⟨g3, 2, none⟩ (.int .i64 1))) := Lib.hid (HB.out.setCell HG3.out _)
      generalize w5.setCell ⟨g3, 2, none⟩ (.int .i64 1) = w6 at HT6 HU6 HV6 HX6 ⊢
      clear H1 H2 H3 HB f6
      have H1 := HU6
      have H2 := HV6
      have H3 := HT6
      have HB := HX6
      clear HU6 HV6 HT6 HX6
      have f7 := blk_frozen H3.out 1
      clear u0 u1 u2
      obtain ⟨u0, u1, u2⟩ := cells3 H3.out
      go_upto_region 6 with (fail)
      have HT7 : Hid ((w6.setCell ⟨g3, 1, none⟩ (.int .i64 (m + 1))).heap[g3]? = some (.cells #[.int .i64 y, .int .i64 (m + 1), .int .i64 1] 37 (0, 0))) := Lib.hid (blk_set H3.out 1 _)
      have HU7 : Hid ((w6.setCell ⟨g3, 1, none⟩ (.int .i64 (m + 1))).heap[g1]? = some (.cells #[.int .i64 N, .int .i64 y, .int .i64 m, .int .i64 d, .int .i64 wd] 47 (0, 0))) := Lib.hid (blk_far H1.out (ne_type H1.out H3.out (by decide)) _)
      have HV7 : Hid ((w6.setCell ⟨g3, 1, none⟩ (.int .i64 (m + 1))).heap[g2]? = some (.cells #[.int .i64 0, .int .i64 0, .int .i64 0, .int .i64 0, .int .i64 0] 47 (0, 0))) := Lib.hid (blk_far H2.out (ne_type H2.out H3.out (by decide)) _)
      have HX7 : Hid (Below w.heap.size w (w6.setCell ⟨g3, 1, none⟩ (.int .i64 (m + 1)))) := Lib.hid (HB.out.setCell HG3.out _)
      generalize w6.setCell ⟨g3, 1, none⟩ (.int .i64 (m + 1)) = w7 at HT7 HU7 HV7 HX7 ⊢
      clear H1 H2 H3 HB f7
      have H1 := HU7
      have H2 := HV7
      have H3 := HT7
      have HB := HX7
      clear HU7 HV7 HT7 HX7
      clear u0 u1 u2
      obtain ⟨u0, u1, u2⟩ := cells3 H3.out
      obtain ⟨d0, d1, d2, d3, d4⟩ := cells5 H1.out
      have f20 := blk_frozen H2.out 0
      have f21 := blk_frozen H2.out 1
      have f22 := blk_frozen H2.out 2
      have f23 := blk_frozen H2.out 3
      have f24 := blk_frozen H2.out 4
      obtain ⟨z0, z1, z2, z3, z4⟩ := cells5 H2.out
      go_wp2
      have HZ := set5 (a := .int .i64 (N + 1)) (b := .int .i64 y) (c := .int .i64 (m + 1)) (d := .int .i64 1) (e := .int .i64 V) H2.out
      have HZB : Below w.heap.size w (((((w7.setCell ⟨g2, 0, none⟩ (.int .i64 (N + 1))).setCell ⟨g2, 1, none⟩ (.int .i64 y)).setCell ⟨g2, 2, none⟩ (.int .i64 (m + 1))).setCell ⟨g2, 3, none⟩ (.int .i64 1)).setCell ⟨g2, 4, none⟩ (.int .i64 V)) := ((((HB.out.setCell HG2.out _).setCell HG2.out _).setCell HG2.out _).setCell HG2.out _).setCell HG2.out _
      clear z0 z1 z2 z3 z4 d0 d1 d2 d3 d4 u0 u1 u2 f20 f21 f22 f23 f24
      generalize (((((w7.setCell ⟨g2, 0, none⟩ (.int .i64 (N + 1))).setCell ⟨g2, 1, none⟩ (.int .i64 y)).setCell ⟨g2, 2, none⟩ (.int .i64 (m + 1))).setCell ⟨g2, 3, none⟩ (.int .i64 1)).setCell ⟨g2, 4, none⟩ (.int .i64 V)) = wz at HZ HZB ⊢
      have HZH := Lib.hid HZ
      clear HZ
      have HZX := Lib.hid HZB
      clear HZB
      obtain ⟨ha, hb, hc⟩ := HA.out
      have HY := Lib.hid ha
      have HM := Lib.hid hb
      have HD := Lib.hid hc
      clear ha hb hc
      refine bodyPost_ret (results_cell_row rfl _ _ g2 47 #[.int .i64 (N + 1), .int .i64 y, .int .i64 (m + 1), .int .i64 1, .int .i64 V] (0, 0) _ rfl HZH.out Try.underlying47 rfl (by kernel_rfl)) rfl ?_
      rw [HY.out, HM.out, HD.out]
      exact ⟨rfl, HZX.out⟩
  · have HA : Hid (Y = y ∧ M = m ∧ D = d + 1) := Lib.hid (by obtain ⟨a, b, c⟩ := HDAT.out; rw [if_neg c1] at a b c; exact ⟨a, b, c⟩)
    have c1d : decide (long < d + 1) = false := decide_eq_false c1
    have c2 : ¬ 12 < m := by omega
    rw [c1d]
    clear u0 u1 u2
    obtain ⟨u0, u1, u2⟩ := cells3 H3.out
    obtain ⟨d0, d1, d2, d3, d4⟩ := cells5 H1.out
    have f20 := blk_frozen H2.out 0
    have f21 := blk_frozen H2.out 1
    have f22 := blk_frozen H2.out 2
    have f23 := blk_frozen H2.out 3
    have f24 := blk_frozen H2.out 4
    obtain ⟨z0, z1, z2, z3, z4⟩ := cells5 H2.out
    go_wp2
    have HZ := set5 (a := .int .i64 (N + 1)) (b := .int .i64 y) (c := .int .i64 m) (d := .int .i64 (d + 1)) (e := .int .i64 V) H2.out
    have HZB : Below w.heap.size w (((((w5.setCell ⟨g2, 0, none⟩ (.int .i64 (N + 1))).setCell ⟨g2, 1, none⟩ (.int .i64 y)).setCell ⟨g2, 2, none⟩ (.int .i64 m)).setCell ⟨g2, 3, none⟩ (.int .i64 (d + 1))).setCell ⟨g2, 4, none⟩ (.int .i64 V)) := ((((HB.out.setCell HG2.out _).setCell HG2.out _).setCell HG2.out _).setCell HG2.out _).setCell HG2.out _
    clear z0 z1 z2 z3 z4 d0 d1 d2 d3 d4 u0 u1 u2 f20 f21 f22 f23 f24
    generalize (((((w5.setCell ⟨g2, 0, none⟩ (.int .i64 (N + 1))).setCell ⟨g2, 1, none⟩ (.int .i64 y)).setCell ⟨g2, 2, none⟩ (.int .i64 m)).setCell ⟨g2, 3, none⟩ (.int .i64 (d + 1))).setCell ⟨g2, 4, none⟩ (.int .i64 V)) = wz at HZ HZB ⊢
    have HZH := Lib.hid HZ
    clear HZ
    have HZX := Lib.hid HZB
    clear HZB
    obtain ⟨ha, hb, hc⟩ := HA.out
    have HY := Lib.hid ha
    have HM := Lib.hid hb
    have HD := Lib.hid hc
    clear ha hb hc
    refine bodyPost_ret (results_cell_row rfl _ _ g2 47 #[.int .i64 (N + 1), .int .i64 y, .int .i64 m, .int .i64 (d + 1), .int .i64 V] (0, 0) _ rfl HZH.out Try.underlying47 rfl (by kernel_rfl)) rfl ?_
    rw [HY.out, HM.out, HD.out]
    exact ⟨rfl, HZX.out⟩

end Go.Proofs.Ytinjbpbpgogdhaa.Own
end
section
namespace Go.Proofs.Ytinjbpbpgogdhaa.Own
open Go.RowKit Go.Shelf Go.Proofs.YtinjbpbpgogdhaaW.PrintWords Go.Proofs.YtinjbpbpgogdhaaW.PrintLast Go.Proofs.YtinjbpbpgogdhaaW.PrintMore
set_option linter.unusedVariables false
set_option linter.unusedSimpArgs false
theorem set3 {W : World} {g : Nat} {a b c z0 z1 z2 : Value} {t : TypeId} (h : W.heap[g]? = some (.cells #[z0, z1, z2] t (0, 0))) : (((W.setCell ⟨g, 0, none⟩ a).setCell ⟨g, 1, none⟩ b).setCell ⟨g, 2, none⟩ c).heap[g]? = some (.cells #[a, b, c] t (0, 0)) :=
  blk_set (blk_set (blk_set h 0 a) 1 b) 2 c
theorem cm_le {y a b : Int} (h1 : 1 ≤ a) (h : a ≤ b) (h2 : b ≤ 12) : cm y a ≤ cm y b := by
  unfold cm mar
  repeat (split <;> try omega)
theorem cm_next {y a b : Int} (h1 : 1 ≤ a) (h : a < b) (h2 : b ≤ 12) : cm y a + len y a ≤ cm y b := by
  have := cm_succ (y := y) h1 (show a ≤ 11 by omega)
  have := cm_le (y := y) (a := a + 1) (b := b) (by omega) (by omega) h2
  omega
theorem cm_end {y m d : Int} (h1 : 1 ≤ m) (h2 : m ≤ 12) (hd : d ≤ len y m) : d - 1 + cm y m < 365 + lpi y := by
  have e : cm y 12 + len y 12 = 365 + lpi y := by
    unfold cm len mar lpi
    simp
    omega
  by_cases h : m = 12
  · subst h; omega
  · have := cm_next (y := y) (a := m) (b := 12) h1 (by omega) (by omega)
    have := (len_bd y 12).1
    omega
theorem era_next {a y : Int} (h : a < y) : 365 + lpi a ≤ eraZ (y - 1) - eraZ (a - 1) := by
  have h1 := era_succ a
  by_cases e : a = y - 1
  · rw [← e]; omega
  · have := era_mono (a := a) (b := y - 1) (by omega)
    omega
set_option maxHeartbeats 8000000 in
set_option maxRecDepth 100000 in
/-- ref01.Date. -/
theorem rdate_any {y m d : Int} (hok : Ok y m d) (w : World) :
    Calls Try.prog 30 #[.int .i64 (num y m d)] w fun e w' => e = .returned (.tuple #[.agg #[.int .i64 y, .int .i64 m, .int .i64 d], .bool true]) ∧ Below w.heap.size w w' := by
  have hnb := num_bd hok
  obtain ⟨hy0, hy1, hm0, hm1, hd0, hd1⟩ := hok
  have hne := num_eq (y := y) (m := m) (d := d) hm0 hm1
  obtain ⟨n, hn⟩ : ∃ n, n = num y m d := ⟨_, rfl⟩
  rw [← hn] at hne hnb ⊢
  clear hn
  have HCE := Lib.hid (cm_end hm0 hm1 hd1)
  obtain ⟨c, hc⟩ : ∃ c, c = cm y m := ⟨_, rfl⟩
  have hcb := cm_bd (y := y) hm0 hm1
  rw [← hc] at hne hcb
  have HNE := Lib.hid hne
  have HC := Lib.hid hc
  have HD1 := Lib.hid hd1
  have hd2 : d ≤ 31 := by have := (len_bd y m).2; omega
  clear hne hc hd1
  have HLP : Hid (∀ a W, Calls Try.prog 25 #[.int .i64 a] W fun e w' => e = .returned (.bool (lp a)) ∧ Below W.heap.size W w') := Lib.hid (fun a W => (vespersref01_Leap.calls a _ W (ref_Leap_f a)).mono (fun e w' h => ⟨h.1, drawn_below h.2⟩))
  have HLN : Hid (∀ z W, Calls Try.prog 24 #[.int .i64 y, .int .i64 z] W fun e w' => e = .returned (.int .i64 (len y z)) ∧ Below W.heap.size W w') := Lib.hid (fun z W => vespersref01_Length.calls 5 y z _ W (ref_Length_f (by decide) y z))
  have n1 : ¬ n < 0 := by omega
  have n2 : ¬ 109937 < n := by omega
  go_enter Try.func30, Try.ntmps30
  go_upto_region 1 with (fail)
  have hx1 := World.alloc_heap_new w (.cells #[.int .i64 0, .int .i64 0, .int .i64 0] 37)
  have hxb : Below w.heap.size w (w.alloc (.cells #[.int .i64 0, .int .i64 0, .int .i64 0] 37)) := below_new_
  generalize (w.alloc (.cells #[.int .i64 0, .int .i64 0, .int .i64 0] 37)) = w1 at hx1 hxb ⊢
  obtain ⟨g1, hg1⟩ : ∃ x, x = w.heap.size := ⟨_, rfl⟩
  rw [← hg1] at hx1 ⊢
  have HG : Hid (w.heap.size ≤ g1) := Lib.hid (by omega)
  clear hg1
  have H1 := Lib.hid hx1
  have HB1 := Lib.hid hxb
  clear hx1 hxb
  go_wp2
  go_loopw [0, 4] (fun a b wr => ∃ N Z : Int, a = .int .i64 N ∧ b = .int .i64 Z ∧ 1900 ≤ Z ∧ Z ≤ y ∧ 0 ≤ N ∧ N ≤ 109938 ∧ Hid (N = d - 1 + c + (eraZ (y - 1) - eraZ (Z - 1))) ∧ Hid (wr.heap[g1]? = some (.cells #[.int .i64 0, .int .i64 0, .int .i64 0] 37 (0, 0))) ∧ Hid (Below w.heap.size w wr)) (fun _ b _ => (y - intOf b).toNat)
  case atStart => exact ⟨n, 1900, rfl, rfl, by omega, by omega, by omega, by omega, Lib.hid (by rw [HNE.out]; rfl), H1, HB1⟩
  case round =>
  obtain ⟨N, Z, rfl, rfl, hz0, hz1, hN0, hN1, HNN, HH, HBB⟩ := hrel
  obtain ⟨K, hK⟩ : ∃ K, K = 365 + lpi Z := ⟨_, rfl⟩
  have hKb : 365 ≤ K ∧ K ≤ 366 := by rw [hK]; unfold lpi; split <;> omega
  have HK := Lib.hid hK
  clear hK
  have HX : (lp Z = true ∧ K = 366) ∨ (lp Z = false ∧ K = 365) := by
    rw [HK.out]
    unfold lpi
    cases lp Z <;> simp
  have HLZ := Lib.hid (HLP.out Z)
  clear hKb
  rcases HX with ⟨hl, rfl⟩ | ⟨hl, rfl⟩
  · rw [hl] at HLZ
    clear hl
    go_upto_region 7 with (first | ((with_reducible refine (HLZ.out _).mono ?_); rintro e w3 ⟨rfl, hb3⟩; have HHC := Lib.hid (keep_below hb3 HH.out); have HBD := Lib.hid (HBB.out.trans (hb3.mono HBB.out.size)); clear hb3))
    clear HH HBB
    by_cases hz : Z = y
    · subst hz
      have hlt : N < 366 := by have h1 := HNN.out; have h2 := HCE.out; rw [← HC.out] at h2; rw [HK.out]; omega
      have HN1 : Hid (N = d - 1 + c) := Lib.hid (by have h1 := HNN.out; omega)
      clear HNN hz1
      go_wp2
      go_loopw [0, 6] (fun a b wr => ∃ N M : Int, a = .int .i64 N ∧ b = .int .i64 M ∧ 1 ≤ M ∧ M ≤ m ∧ 0 ≤ N ∧ N ≤ 109938 ∧ Hid (N = d - 1 + c - cm Z M) ∧ Hid (wr.heap[g1]? = some (.cells #[.int .i64 0, .int .i64 0, .int .i64 0] 37 (0, 0))) ∧ Hid (Below w.heap.size w wr)) (fun _ b _ => (m - intOf b).toNat)
      case atStart => exact ⟨N, 1, rfl, rfl, by omega, by omega, by omega, by omega, Lib.hid (by rw [HN1.out]; unfold cm; simp), HHC, HBD⟩
      case round =>
      clear hlt hN0 hN1
      obtain ⟨R, M, rfl, rfl, hM0, hM1, hR0, hR1, HRR, HH2, HB2⟩ := hrel
      obtain ⟨L, hL⟩ : ∃ L, L = len Z M := ⟨_, rfl⟩
      have HL := Lib.hid (HLN.out M)
      rw [← hL] at HL
      have hLb := len_bd Z M
      rw [← hL] at hLb
      have HLE := Lib.hid hL
      clear hL
      by_cases hm : M = m
      · subst hm
        have HRE : Hid (R = d - 1) := Lib.hid (by have h1 := HRR.out; have h2 := HC.out; omega)
        have hlt : ¬ L ≤ R := by have h1 := HRE.out; have h2 := HD1.out; rw [← HLE.out] at h2; omega
        have hw1 : wrap64 (R + 1) = R + 1 := IntWalk.wrap64_in _ (by omega)
        have HD : Hid (R + 1 = d) := Lib.hid (by have h1 := HRE.out; clear hw1; omega)
        go_wp2_with (first | ((with_reducible refine (HL.out _).mono ?_); rintro e w3 ⟨rfl, hb3⟩; have HH3 := Lib.hid (keep_below hb3 HH2.out); have HB3 := Lib.hid (HB2.out.trans (hb3.mono HB2.out.size)); clear hb3 HH2 HB2; obtain ⟨z0, z1, z2⟩ := cells3 HH3.out; have f0 := blk_frozen HH3.out 0; have f1 := blk_frozen HH3.out 1; have f2 := blk_frozen HH3.out 2))
        have HZ := Lib.hid (set3 (a := .int .i64 Z) (b := .int .i64 M) (c := .int .i64 (R + 1)) HH3.out)
        have HZB : Hid (Below w.heap.size w (((w3.setCell ⟨g1, 0, none⟩ (.int .i64 Z)).setCell ⟨g1, 1, none⟩ (.int .i64 M)).setCell ⟨g1, 2, none⟩ (.int .i64 (R + 1)))) := Lib.hid (((HB3.out.setCell HG.out _).setCell HG.out _).setCell HG.out _)
        clear z0 z1 z2 f0 f1 f2
        generalize (((w3.setCell ⟨g1, 0, none⟩ (.int .i64 Z)).setCell ⟨g1, 1, none⟩ (.int .i64 M)).setCell ⟨g1, 2, none⟩ (.int .i64 (R + 1))) = wz at HZ HZB ⊢
        refine bodyPost_ret (results_ct rfl _ _ g1 37 #[.int .i64 Z, .int .i64 M, .int .i64 (R + 1)] (0, 0) _ rfl HZ.out Try.underlying37 rfl (by kernel_rfl)) rfl ?_
        rw [HD.out]
        exact ⟨rfl, HZB.out⟩
      · have hle : L ≤ R := by
          have h1 := HRR.out
          have h2 := cm_next (y := Z) (a := M) (b := m) hM0 (by omega) hm1
          have h3 := HC.out
          have h4 := HLE.out
          omega
        have hw1 : wrap64 (R - L) = R - L := IntWalk.wrap64_in _ (by omega)
        have hw2 : wrap64 (M + 1) = M + 1 := by clear hw1; exact IntWalk.wrap64_in _ (by omega)
        go_wp2_with (first | ((with_reducible refine (HL.out _).mono ?_); rintro e w3 ⟨rfl, hb3⟩; have HH3 := Lib.hid (keep_below hb3 HH2.out); have HB3 := Lib.hid (HB2.out.trans (hb3.mono HB2.out.size)); clear hb3 HH2 HB2; have HH2 := HH3; have HB2 := HB3; clear HH3 HB3))
        go_roundw
        case rel => exact ⟨R - L, M + 1, rfl, rfl, by omega, by omega, by clear hw1 hw2; omega, by clear hw1 hw2; omega, Lib.hid (by have h1 := HRR.out; have h2 := cm_succ (y := Z) hM0 (by omega); have h3 := HLE.out; clear hw1 hw2; omega), HH2, HB2⟩
        case measure => simp [intOf]; omega
    · have hle : ¬ N < 366 := by
        have h1 := HNN.out
        have h2 := era_next (a := Z) (y := y) (by omega)
        have h3 := HK.out
        omega
      have hw1 : wrap64 (N - 366) = N - 366 := IntWalk.wrap64_in _ (by omega)
      have hw2 : wrap64 (Z + 1) = Z + 1 := by clear hw1; exact IntWalk.wrap64_in _ (by omega)
      go_wp2
      go_roundw
      case rel => exact ⟨N - 366, Z + 1, rfl, rfl, by omega, by omega, by clear hw1 hw2; omega, by clear hw1 hw2; omega, Lib.hid (by have h1 := HNN.out; have h2 := era_succ Z; have h3 := HK.out; rw [show Z + 1 - 1 = Z from by omega]; clear hw1 hw2; omega), HHC, HBD⟩
      case measure => simp [intOf]; omega
  · rw [hl] at HLZ
    clear hl
    go_upto_region 7 with (first | ((with_reducible refine (HLZ.out _).mono ?_); rintro e w3 ⟨rfl, hb3⟩; have HHC := Lib.hid (keep_below hb3 HH.out); have HBD := Lib.hid (HBB.out.trans (hb3.mono HBB.out.size)); clear hb3))
    clear HH HBB
    by_cases hz : Z = y
    · subst hz
      have hlt : N < 365 := by have h1 := HNN.out; have h2 := HCE.out; rw [← HC.out] at h2; rw [HK.out]; omega
      have HN1 : Hid (N = d - 1 + c) := Lib.hid (by have h1 := HNN.out; omega)
      clear HNN hz1
      go_wp2
      go_loopw [0, 6] (fun a b wr => ∃ N M : Int, a = .int .i64 N ∧ b = .int .i64 M ∧ 1 ≤ M ∧ M ≤ m ∧ 0 ≤ N ∧ N ≤ 109938 ∧ Hid (N = d - 1 + c - cm Z M) ∧ Hid (wr.heap[g1]? = some (.cells #[.int .i64 0, .int .i64 0, .int .i64 0] 37 (0, 0))) ∧ Hid (Below w.heap.size w wr)) (fun _ b _ => (m - intOf b).toNat)
      case atStart => exact ⟨N, 1, rfl, rfl, by omega, by omega, by omega, by omega, Lib.hid (by rw [HN1.out]; unfold cm; simp), HHC, HBD⟩
      case round =>
      clear hlt hN0 hN1
      obtain ⟨R, M, rfl, rfl, hM0, hM1, hR0, hR1, HRR, HH2, HB2⟩ := hrel
      obtain ⟨L, hL⟩ : ∃ L, L = len Z M := ⟨_, rfl⟩
      have HL := Lib.hid (HLN.out M)
      rw [← hL] at HL
      have hLb := len_bd Z M
      rw [← hL] at hLb
      have HLE := Lib.hid hL
      clear hL
      by_cases hm : M = m
      · subst hm
        have HRE : Hid (R = d - 1) := Lib.hid (by have h1 := HRR.out; have h2 := HC.out; omega)
        have hlt : ¬ L ≤ R := by have h1 := HRE.out; have h2 := HD1.out; rw [← HLE.out] at h2; omega
        have hw1 : wrap64 (R + 1) = R + 1 := IntWalk.wrap64_in _ (by omega)
        have HD : Hid (R + 1 = d) := Lib.hid (by have h1 := HRE.out; clear hw1; omega)
        go_wp2_with (first | ((with_reducible refine (HL.out _).mono ?_); rintro e w3 ⟨rfl, hb3⟩; have HH3 := Lib.hid (keep_below hb3 HH2.out); have HB3 := Lib.hid (HB2.out.trans (hb3.mono HB2.out.size)); clear hb3 HH2 HB2; obtain ⟨z0, z1, z2⟩ := cells3 HH3.out; have f0 := blk_frozen HH3.out 0; have f1 := blk_frozen HH3.out 1; have f2 := blk_frozen HH3.out 2))
        have HZ := Lib.hid (set3 (a := .int .i64 Z) (b := .int .i64 M) (c := .int .i64 (R + 1)) HH3.out)
        have HZB : Hid (Below w.heap.size w (((w3.setCell ⟨g1, 0, none⟩ (.int .i64 Z)).setCell ⟨g1, 1, none⟩ (.int .i64 M)).setCell ⟨g1, 2, none⟩ (.int .i64 (R + 1)))) := Lib.hid (((HB3.out.setCell HG.out _).setCell HG.out _).setCell HG.out _)
        clear z0 z1 z2 f0 f1 f2
        generalize (((w3.setCell ⟨g1, 0, none⟩ (.int .i64 Z)).setCell ⟨g1, 1, none⟩ (.int .i64 M)).setCell ⟨g1, 2, none⟩ (.int .i64 (R + 1))) = wz at HZ HZB ⊢
        refine bodyPost_ret (results_ct rfl _ _ g1 37 #[.int .i64 Z, .int .i64 M, .int .i64 (R + 1)] (0, 0) _ rfl HZ.out Try.underlying37 rfl (by kernel_rfl)) rfl ?_
        rw [HD.out]
        exact ⟨rfl, HZB.out⟩
      · have hle : L ≤ R := by
          have h1 := HRR.out
          have h2 := cm_next (y := Z) (a := M) (b := m) hM0 (by omega) hm1
          have h3 := HC.out
          have h4 := HLE.out
          omega
        have hw1 : wrap64 (R - L) = R - L := IntWalk.wrap64_in _ (by omega)
        have hw2 : wrap64 (M + 1) = M + 1 := by clear hw1; exact IntWalk.wrap64_in _ (by omega)
        go_wp2_with (first | ((with_reducible refine (HL.out _).mono ?_); rintro e w3 ⟨rfl, hb3⟩; have HH3 := Lib.hid (keep_below hb3 HH2.out); have HB3 := Lib.hid (HB2.out.trans (hb3.mono HB2.out.size)); clear hb3 HH2 HB2; have HH2 := HH3; have HB2 := HB3; clear HH3 HB3))
        go_roundw
        case rel => exact ⟨R - L, M + 1, rfl, rfl, by omega, by omega, by clear hw1 hw2; omega, by clear hw1 hw2; omega, Lib.hid (by have h1 := HRR.out; have h2 := cm_succ (y := Z) hM0 (by omega); have h3 := HLE.out; clear hw1 hw2; omega), HH2, HB2⟩
        case measure => simp [intOf]; omega
    · have hle : ¬ N < 365 := by
        have h1 := HNN.out
        have h2 := era_next (a := Z) (y := y) (by omega)
        have h3 := HK.out
        omega
      have hw1 : wrap64 (N - 365) = N - 365 := IntWalk.wrap64_in _ (by omega)
      have hw2 : wrap64 (Z + 1) = Z + 1 := by clear hw1; exact IntWalk.wrap64_in _ (by omega)
      go_wp2
      go_roundw
      case rel => exact ⟨N - 365, Z + 1, rfl, rfl, by omega, by omega, by clear hw1 hw2; omega, by clear hw1 hw2; omega, Lib.hid (by have h1 := HNN.out; have h2 := era_succ Z; have h3 := HK.out; rw [show Z + 1 - 1 = Z from by omega]; clear hw1 hw2; omega), HHC, HBD⟩
      case measure => simp [intOf]; omega
end Go.Proofs.Ytinjbpbpgogdhaa.Own
end
