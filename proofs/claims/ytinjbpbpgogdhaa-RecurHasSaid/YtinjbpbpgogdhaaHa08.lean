-- own text: texts of this session merged by a program of it (merge.py), declarations that nothing reaches left out (prune.py)
import Derived.Test.YtinjbpbpgogdhaaHa04
import Derived.Test.YtinjbpbpgogdhaaHa06
import Derived.Test.YtinjbpbpgogdhaaHa07
import Derived.Lib.Hide
import Derived.Deep.QuietTactic
import Derived.BigQuiet
section
namespace Go.Proofs.Ytinjbpbpgogdhaa.Own
open Go.RowKit Go.Proofs.YtinjbpbpgogdhaaW.PrintWords Go.Proofs.YtinjbpbpgogdhaaW.PrintLast Go.Proofs.YtinjbpbpgogdhaaW.PrintMore
attribute [local go_sem] max2_int min2_int max_two min_two max_three min_three max_four min_four   -- for this text's walks alone
set_option linter.unusedVariables false
set_option linter.unusedSimpArgs false

/-! ### vespersref01_Number: function 11 -/
mutual
def vespersref01_Number.l0 : Nat → Int → Int → Int → Int → Int → Option (Int × Bool)
  | 0, _, _, _, _, _ => none
  | k + 1, x4, x5, x189000, x189001, x189002 => if x5 < x189001 then ((vespersref01_Length.f k x189000 x5).bind fun t190 => (vespersref01_Number.l0 k (wrap64 (x4 + t190)) (wrap64 (x5 + 1)) x189000 x189001 x189002)) else (vespersref01_Number.l1 k x4 1900 x189000 x189001 x189002)
def vespersref01_Number.l1 : Nat → Int → Int → Int → Int → Int → Option (Int × Bool)
  | 0, _, _, _, _, _ => none
  | k + 1, x4, x6, x189000, x189001, x189002 => if x6 < x189000 then ((vespersref01_Leap.f x6).bind fun t191 => (if t191 = true then (vespersref01_Number.l1 k (wrap64 ((wrap64 (x4 + 365)) + 1)) (wrap64 (x6 + 1)) x189000 x189001 x189002) else (vespersref01_Number.l1 k (wrap64 (x4 + 365)) (wrap64 (x6 + 1)) x189000 x189001 x189002))) else (some (x4, true))
end
def vespersref01_Number.f (k : Nat) (a0_0 : Int) (a0_1 : Int) (a0_2 : Int) : Option (Int × Bool) := (vespersref01_May.f k a0_0 a0_1 a0_2).bind fun t189 => (if t189 = true then (vespersref01_Number.l0 k (wrap64 (a0_2 - 1)) 1 a0_0 a0_1 a0_2) else (some (0, false)))
theorem vespersref01_Number.mono_l : ∀ k, (∀ y0 y1 y2 y3 y4, LeO (vespersref01_Number.l0 k y0 y1 y2 y3 y4) (vespersref01_Number.l0 (k + 1) y0 y1 y2 y3 y4)) ∧ (∀ y0 y1 y2 y3 y4, LeO (vespersref01_Number.l1 k y0 y1 y2 y3 y4) (vespersref01_Number.l1 (k + 1) y0 y1 y2 y3 y4))
  | 0 => ⟨fun _ _ _ _ _ r h => by simp [vespersref01_Number.l0] at h, fun _ _ _ _ _ r h => by simp [vespersref01_Number.l1] at h⟩
  | k + 1 => by
    obtain ⟨ih0, ih1⟩ := vespersref01_Number.mono_l k
    refine ⟨?_, ?_⟩
    · intro y0 y1 y2 y3 y4
      unfold vespersref01_Number.l0
      repeat' first
      | (with_reducible exact ih0 _ _ _ _ _)
      | (with_reducible exact ih1 _ _ _ _ _)
      | (with_reducible exact vespersref01_Length.mono _ _ _)
      | (with_reducible exact vespersref01_May.mono _ _ _ _)
      | (with_reducible exact LeO.refl _)
      | (with_reducible exact LeO.none _)
      | (with_reducible refine LeO.ite ?_ ?_)
      | (with_reducible refine LeO.bind ?_ (fun _ => ?_))
      | exact ih0 _ _ _ _ _
      | exact ih1 _ _ _ _ _
      | exact vespersref01_Length.mono _ _ _
      | exact vespersref01_May.mono _ _ _ _
      | exact LeO.none _
      | refine LeO.ite ?_ ?_
      | refine LeO.bind ?_ (fun _ => ?_)
    · intro y0 y1 y2 y3 y4
      unfold vespersref01_Number.l1
      repeat' first
      | (with_reducible exact ih0 _ _ _ _ _)
      | (with_reducible exact ih1 _ _ _ _ _)
      | (with_reducible exact vespersref01_Length.mono _ _ _)
      | (with_reducible exact vespersref01_May.mono _ _ _ _)
      | (with_reducible exact LeO.refl _)
      | (with_reducible exact LeO.none _)
      | (with_reducible refine LeO.ite ?_ ?_)
      | (with_reducible refine LeO.bind ?_ (fun _ => ?_))
      | exact ih0 _ _ _ _ _
      | exact ih1 _ _ _ _ _
      | exact vespersref01_Length.mono _ _ _
      | exact vespersref01_May.mono _ _ _ _
      | exact LeO.none _
      | refine LeO.ite ?_ ?_
      | refine LeO.bind ?_ (fun _ => ?_)
theorem vespersref01_Number.mono : ∀ a0 a1 a2 k, LeO (vespersref01_Number.f k a0 a1 a2) (vespersref01_Number.f (k + 1) a0 a1 a2) := by
  intro a0 a1 a2 k
  obtain ⟨ih0, ih1⟩ := vespersref01_Number.mono_l k
  unfold vespersref01_Number.f
  repeat' first
      | (with_reducible exact ih0 _ _ _ _ _)
      | (with_reducible exact ih1 _ _ _ _ _)
      | (with_reducible exact vespersref01_Length.mono _ _ _)
      | (with_reducible exact vespersref01_May.mono _ _ _ _)
      | (with_reducible exact LeO.refl _)
      | (with_reducible exact LeO.none _)
      | (with_reducible refine LeO.ite ?_ ?_)
      | (with_reducible refine LeO.bind ?_ (fun _ => ?_))
      | exact ih0 _ _ _ _ _
      | exact ih1 _ _ _ _ _
      | exact vespersref01_Length.mono _ _ _
      | exact vespersref01_May.mono _ _ _ _
      | exact LeO.none _
      | refine LeO.ite ?_ ?_
      | refine LeO.bind ?_ (fun _ => ?_)
set_option maxHeartbeats 8000000 in
set_option maxRecDepth 100000 in
theorem vespersref01_Number.calls (k : Nat) (a0_0 : Int) (a0_1 : Int) (a0_2 : Int) (r1 : Int) (r2 : Bool) (w : World) (h : vespersref01_Number.f k a0_0 a0_1 a0_2 = some (r1, r2)) :
    Calls Try.prog 11 #[.agg #[.int .i64 a0_0, .int .i64 a0_1, .int .i64 a0_2]] w fun e w' => e = .returned (.tuple #[.int .i64 r1, .bool r2]) ∧ Below w.heap.size w w' := by
  have hu37 := Try.underlying37
  have HB := Aside0.mk (Below.refl w.heap.size w)
  have H : ((vespersref01_May.f k a0_0 a0_1 a0_2).bind fun t189 => (if t189 = true then (vespersref01_Number.l0 k (wrap64 (a0_2 - 1)) 1 a0_0 a0_1 a0_2) else (some (0, false)))) = some (r1, r2) := h
  clear h
  replace H := Option.bind_eq_some_iff.mp H
  obtain ⟨t189, A20, H⟩ := H
  replace H : (if t189 = true then (vespersref01_Number.l0 k (wrap64 (a0_2 - 1)) 1 a0_0 a0_1 a0_2) else (some (0, false))) = some (r1, r2) := H
  have A2 := Aside0.mk A20
  clear A20
  by_cases c3 : t189 = true
  · subst c3
    have H1 : (vespersref01_Number.l0 k (wrap64 (a0_2 - 1)) 1 a0_0 a0_1 a0_2) = some (r1, r2) := by rw [if_pos rfl] at H; exact H
    clear H
    have H := H1
    clear H1
    have H' := Aside0.mk H
    clear H
    go_enter Try.func11, Try.ntmps11
    go_wp2_with (first | ((with_reducible refine gate_dst (N := 1) rfl ?_); refine box_event ?hg (N := 1) ?hd (cs := #[.int .i64 a0_0, .int .i64 a0_1, .int .i64 a0_2]) (t := 37) ?hr ?_; (case hd => rfl); (case hg => rfl); (case hr => first | (go_simp; done) | (go_simp; rfl)); intro gb188 hg w4 hbox hb; have n0_ := Aside0.mk (below_step (by repeat (first | (with_reducible first | exact HB.out | apply below_alloc | apply pw_below_drewN | apply below_drew1) | exact HB.out)) hb); have n1_ := Aside0.mk (hbox); have n2_ := Aside0.mk ((by rw [hg]; exact (below_size (by repeat (first | (with_reducible first | exact HB.out | apply below_alloc | apply pw_below_drewN | apply below_drew1) | exact HB.out))) : w.heap.size ≤ gb188)); have n3_ := Aside0.mk ((by rw [hg]; exact (below_size (by repeat (first | (with_reducible first | exact HB.out | apply below_alloc | apply pw_below_drewN | apply below_drew1) | exact HB.out))) : w.heap.size ≤ gb188)); clear HB; have HB := n0_; have BK188 := n1_; have GW188 := n2_; have GE188 := n3_; clear n0_ n1_ n2_ n3_; clear hb hbox hg; have hcz5_0 : w4.cell? ⟨gb188, 0, none⟩ = some (.int .i64 a0_0) := (blk_cell BK188.out 0).trans rfl; have hcz5_1 : w4.cell? ⟨gb188, 1, none⟩ = some (.int .i64 a0_1) := (blk_cell BK188.out 1).trans rfl; have hcz5_2 : w4.cell? ⟨gb188, 2, none⟩ = some (.int .i64 a0_2) := (blk_cell BK188.out 2).trans rfl; have hfz5_0 := blk_frozen BK188.out 0; have hfz5_1 := blk_frozen BK188.out 1; have hfz5_2 := blk_frozen BK188.out 2) | ((with_reducible refine gate_callee (f := 23) rfl ?_); refine goesL_ (some 8) rfl rfl Try.func23 (by kernel_rfl) rfl #[.agg #[.int .i64 a0_0, .int .i64 a0_1, .int .i64 a0_2]] rfl (by (try simp only [List.map_toArray, List.map_cons, List.map_nil]); first | done | rfl | (simp only [List.length_drop, List.length_take]; rfl)) ?_; (with_reducible refine (vespersref01_May.calls k a0_0 a0_1 a0_2 true _ A2.out).mono ?_); rintro e w6 ⟨rfl, hb⟩; refine ⟨_, rfl, ?_⟩; have n0_ := Aside0.mk (blk_below (g := gb188) (o := .cells #[.int .i64 a0_0, .int .i64 a0_1, .int .i64 a0_2] 37 (0, 0)) (by (with_reducible repeat (first | refine blk_drewN ?_ _ | refine blk_drew ?_ | refine blk_alloc ?_ _)); exact BK188.out) hb); have n1_ := Aside0.mk (below_step (by repeat (first | (with_reducible first | exact HB.out | apply below_alloc | apply pw_below_drewN | apply below_drew1 | refine below_set ?_ GE188.out) | exact HB.out)) hb); clear BK188; clear HB; have BK188 := n0_; have HB := n1_; clear n0_ n1_; (try clear hb); (try clear hb2); (try clear hk); (try clear hi); have hcz7_0 : w6.cell? ⟨gb188, 0, none⟩ = some (.int .i64 a0_0) := (blk_cell BK188.out 0).trans rfl; have hcz7_1 : w6.cell? ⟨gb188, 1, none⟩ = some (.int .i64 a0_1) := (blk_cell BK188.out 1).trans rfl; have hcz7_2 : w6.cell? ⟨gb188, 2, none⟩ = some (.int .i64 a0_2) := (blk_cell BK188.out 2).trans rfl; have hfz7_0 := blk_frozen BK188.out 0; have hfz7_1 := blk_frozen BK188.out 1; have hfz7_2 := blk_frozen BK188.out 2))
    go_loopg [4, 5] k (fun kq v4 v5 w' => ∃ (x4_1 : Int) (x5_1 : Int), v4 = .int .i64 x4_1 ∧ v5 = .int .i64 x5_1 ∧ Aside0 (vespersref01_Number.l0 kq x4_1 x5_1 a0_0 a0_1 a0_2 = some (r1, r2)) ∧ Aside0 (kq ≤ k) ∧ Aside0 (w'.heap[gb188]? = some (.cells #[.int .i64 a0_0, .int .i64 a0_1, .int .i64 a0_2] 37 (0, 0))) ∧ Aside0 (Below w.heap.size w w'))
    case atStart => exact ⟨(wrap64 (a0_2 - 1)), (1), (by first | rfl | (simp; done) | (simp [*]; done)), (by first | rfl | (simp; done) | (simp [*]; done)), H', ⟨Nat.le_refl _⟩, ⟨by (with_reducible repeat (first | refine blk_drewN ?_ _ | refine blk_drew ?_ | refine blk_alloc ?_ _)); exact BK188.out⟩, ⟨by repeat (first | (with_reducible first | exact HB.out | apply below_alloc | apply pw_below_drewN | apply below_drew1 | refine below_set ?_ GE188.out) | exact HB.out)⟩⟩
    case round =>
      clear H'
      try clear c1
      try clear c2
      try clear p2
      try clear c3
      try clear p6
      try clear hcz5_0
      try clear hcz5_1
      try clear hcz5_2
      try clear hcz7_0
      try clear hcz7_1
      try clear hcz7_2
      try clear hfz5_0
      try clear hfz5_1
      try clear hfz5_2
      try clear hfz7_0
      try clear hfz7_1
      try clear hfz7_2
      obtain ⟨x4_1, x5_1, rfl, rfl, HA, HK1, BK188, HB⟩ := hrel
      cases gk with
      | zero => exact absurd HA.out (by simp [vespersref01_Number.l0])
      | succ k1 =>
        have H := HA.out
        clear HA
        simp only [vespersref01_Number.l0] at H
        by_cases c8 : x5_1 < a0_1
        · rw [if_pos c8] at H
          have c8b0 : decide (x5_1 < a0_1) = true := decide_eq_true c8
          clear c8
          replace H := Option.bind_eq_some_iff.mp H
          obtain ⟨t190, A90, H⟩ := H
          replace H : (vespersref01_Number.l0 k1 (wrap64 (x4_1 + t190)) (wrap64 (x5_1 + 1)) a0_0 a0_1 a0_2) = some (r1, r2) := H
          have A9 := Aside0.mk A90
          clear A90
          have H' := Aside0.mk H
          clear H
          have hcz10_0 : wr.cell? ⟨gb188, 0, none⟩ = some (.int .i64 a0_0) := (blk_cell BK188.out 0).trans rfl
          have hcz10_1 : wr.cell? ⟨gb188, 1, none⟩ = some (.int .i64 a0_1) := (blk_cell BK188.out 1).trans rfl
          have hcz10_2 : wr.cell? ⟨gb188, 2, none⟩ = some (.int .i64 a0_2) := (blk_cell BK188.out 2).trans rfl
          have hfz10_0 := blk_frozen BK188.out 0
          have hfz10_1 := blk_frozen BK188.out 1
          have hfz10_2 := blk_frozen BK188.out 2
          go_wp2_with (first | ((with_reducible refine gate_callee (f := 24) rfl ?_); refine goesL_ (some 23) rfl rfl Try.func24 (by kernel_rfl) rfl #[.int .i64 a0_0, .int .i64 x5_1] rfl (by (try simp only [List.map_toArray, List.map_cons, List.map_nil]); first | done | rfl | (simp only [List.length_drop, List.length_take]; rfl)) ?_; (with_reducible refine (vespersref01_Length.calls k1 a0_0 x5_1 t190 _ A9.out).mono ?_); rintro e w11 ⟨rfl, hb⟩; refine ⟨_, rfl, ?_⟩; have n0_ := Aside0.mk (blk_below (g := gb188) (o := .cells #[.int .i64 a0_0, .int .i64 a0_1, .int .i64 a0_2] 37 (0, 0)) (by (with_reducible repeat (first | refine blk_drewN ?_ _ | refine blk_drew ?_ | refine blk_alloc ?_ _)); exact BK188.out) hb); have n1_ := Aside0.mk (below_step (by repeat (first | (with_reducible first | exact HB.out | apply below_alloc | apply pw_below_drewN | apply below_drew1 | refine below_set ?_ GE188.out) | exact HB.out)) hb); clear BK188; clear HB; have BK188 := n0_; have HB := n1_; clear n0_ n1_; (try clear hb); (try clear hb2); (try clear hk); (try clear hi)))
          go_roundg k1
          case measure => have := HK1.out; omega
          case rel => exact ⟨(wrap64 (x4_1 + t190)), (wrap64 (x5_1 + 1)), (by first | rfl | (simp; done) | (simp [*]; done)), (by first | rfl | (simp; done) | (simp [*]; done)), H', ⟨by have := HK1.out; omega⟩, ⟨by (with_reducible repeat (first | refine blk_drewN ?_ _ | refine blk_drew ?_ | refine blk_alloc ?_ _)); exact BK188.out⟩, ⟨by repeat (first | (with_reducible first | exact HB.out | apply below_alloc | apply pw_below_drewN | apply below_drew1 | refine below_set ?_ GE188.out) | exact HB.out)⟩⟩
        · rw [if_neg c8] at H
          have c8b0 : decide (x5_1 < a0_1) = false := decide_eq_false c8
          clear c8
          have H' := Aside0.mk H
          clear H
          have hcz12_0 : wr.cell? ⟨gb188, 0, none⟩ = some (.int .i64 a0_0) := (blk_cell BK188.out 0).trans rfl
          have hcz12_1 : wr.cell? ⟨gb188, 1, none⟩ = some (.int .i64 a0_1) := (blk_cell BK188.out 1).trans rfl
          have hcz12_2 : wr.cell? ⟨gb188, 2, none⟩ = some (.int .i64 a0_2) := (blk_cell BK188.out 2).trans rfl
          have hfz12_0 := blk_frozen BK188.out 0
          have hfz12_1 := blk_frozen BK188.out 1
          have hfz12_2 := blk_frozen BK188.out 2
          go_wp2
          go_loopg [4, 6] k1 (fun kq v4 v6 w' => ∃ (x4_2 : Int) (x6_2 : Int), v4 = .int .i64 x4_2 ∧ v6 = .int .i64 x6_2 ∧ Aside0 (vespersref01_Number.l1 kq x4_2 x6_2 a0_0 a0_1 a0_2 = some (r1, r2)) ∧ Aside0 (kq ≤ k1) ∧ Aside0 (w'.heap[gb188]? = some (.cells #[.int .i64 a0_0, .int .i64 a0_1, .int .i64 a0_2] 37 (0, 0))) ∧ Aside0 (Below w.heap.size w w'))
          case atStart => exact ⟨(x4_1), (1900), (by first | rfl | (simp; done) | (simp [*]; done)), (by first | rfl | (simp; done) | (simp [*]; done)), H', ⟨Nat.le_refl _⟩, ⟨by (with_reducible repeat (first | refine blk_drewN ?_ _ | refine blk_drew ?_ | refine blk_alloc ?_ _)); exact BK188.out⟩, ⟨by repeat (first | (with_reducible first | exact HB.out | apply below_alloc | apply pw_below_drewN | apply below_drew1 | refine below_set ?_ GE188.out) | exact HB.out)⟩⟩
          case round =>
            clear H'
            try clear c1
            try clear c2
            try clear p2
            try clear c3
            try clear p6
            try clear c8
            try clear c8b0
            try clear c11
            try clear hcz10_0
            try clear hcz10_1
            try clear hcz10_2
            try clear hcz12_0
            try clear hcz12_1
            try clear hcz12_2
            try clear hcz5_0
            try clear hcz5_1
            try clear hcz5_2
            try clear hcz7_0
            try clear hcz7_1
            try clear hcz7_2
            try clear hfz10_0
            try clear hfz10_1
            try clear hfz10_2
            try clear hfz12_0
            try clear hfz12_1
            try clear hfz12_2
            try clear hfz5_0
            try clear hfz5_1
            try clear hfz5_2
            try clear hfz7_0
            try clear hfz7_1
            try clear hfz7_2
            try clear p2
            try clear p6
            obtain ⟨x4_2, x6_2, rfl, rfl, HA, HK2, BK188, HB⟩ := hrel
            cases gk with
            | zero => exact absurd HA.out (by simp [vespersref01_Number.l1])
            | succ k2 =>
              have H := HA.out
              clear HA
              simp only [vespersref01_Number.l1] at H
              by_cases c13 : x6_2 < a0_0
              · rw [if_pos c13] at H
                have c13b0 : decide (x6_2 < a0_0) = true := decide_eq_true c13
                clear c13
                replace H := Option.bind_eq_some_iff.mp H
                obtain ⟨t191, A140, H⟩ := H
                replace H : (if t191 = true then (vespersref01_Number.l1 k2 (wrap64 ((wrap64 (x4_2 + 365)) + 1)) (wrap64 (x6_2 + 1)) a0_0 a0_1 a0_2) else (vespersref01_Number.l1 k2 (wrap64 (x4_2 + 365)) (wrap64 (x6_2 + 1)) a0_0 a0_1 a0_2)) = some (r1, r2) := H
                have A14 := Aside0.mk A140
                clear A140
                by_cases c15 : t191 = true
                · subst c15
                  have H1 : (vespersref01_Number.l1 k2 (wrap64 ((wrap64 (x4_2 + 365)) + 1)) (wrap64 (x6_2 + 1)) a0_0 a0_1 a0_2) = some (r1, r2) := by rw [if_pos rfl] at H; exact H
                  clear H
                  have H := H1
                  clear H1
                  have H' := Aside0.mk H
                  clear H
                  have hcz16_0 : wr.cell? ⟨gb188, 0, none⟩ = some (.int .i64 a0_0) := (blk_cell BK188.out 0).trans rfl
                  have hcz16_1 : wr.cell? ⟨gb188, 1, none⟩ = some (.int .i64 a0_1) := (blk_cell BK188.out 1).trans rfl
                  have hcz16_2 : wr.cell? ⟨gb188, 2, none⟩ = some (.int .i64 a0_2) := (blk_cell BK188.out 2).trans rfl
                  have hfz16_0 := blk_frozen BK188.out 0
                  have hfz16_1 := blk_frozen BK188.out 1
                  have hfz16_2 := blk_frozen BK188.out 2
                  go_wp2_with (first | ((with_reducible refine gate_callee (f := 25) rfl ?_); refine goesL_ (some 34) rfl rfl Try.func25 (by kernel_rfl) rfl #[.int .i64 x6_2] rfl (by (try simp only [List.map_toArray, List.map_cons, List.map_nil]); first | done | rfl | (simp only [List.length_drop, List.length_take]; rfl)) ?_; (with_reducible refine (vespersref01_Leap.calls x6_2 true _ A14.out).mono ?_); rintro e w' ⟨rfl, ⟨nd, rfl⟩⟩; refine ⟨_, rfl, ?_⟩))
                  go_roundg k2
                  case measure => have := HK1.out; have := HK2.out; omega
                  case rel => exact ⟨(wrap64 ((wrap64 (x4_2 + 365)) + 1)), (wrap64 (x6_2 + 1)), (by first | rfl | (simp; done) | (simp [*]; done)), (by first | rfl | (simp; done) | (simp [*]; done)), H', ⟨by have := HK1.out; have := HK2.out; omega⟩, ⟨by (with_reducible repeat (first | refine blk_drewN ?_ _ | refine blk_drew ?_ | refine blk_alloc ?_ _)); exact BK188.out⟩, ⟨by repeat (first | (with_reducible first | exact HB.out | apply below_alloc | apply pw_below_drewN | apply below_drew1 | refine below_set ?_ GE188.out) | exact HB.out)⟩⟩
                · replace c15 := Bool.eq_false_iff.mpr c15
                  subst c15
                  have H1 : (vespersref01_Number.l1 k2 (wrap64 (x4_2 + 365)) (wrap64 (x6_2 + 1)) a0_0 a0_1 a0_2) = some (r1, r2) := by rw [if_neg (show ¬ (false = true) by decide)] at H; exact H
                  clear H
                  have H := H1
                  clear H1
                  have H' := Aside0.mk H
                  clear H
                  have hcz17_0 : wr.cell? ⟨gb188, 0, none⟩ = some (.int .i64 a0_0) := (blk_cell BK188.out 0).trans rfl
                  have hcz17_1 : wr.cell? ⟨gb188, 1, none⟩ = some (.int .i64 a0_1) := (blk_cell BK188.out 1).trans rfl
                  have hcz17_2 : wr.cell? ⟨gb188, 2, none⟩ = some (.int .i64 a0_2) := (blk_cell BK188.out 2).trans rfl
                  have hfz17_0 := blk_frozen BK188.out 0
                  have hfz17_1 := blk_frozen BK188.out 1
                  have hfz17_2 := blk_frozen BK188.out 2
                  go_wp2_with (first | ((with_reducible refine gate_callee (f := 25) rfl ?_); refine goesL_ (some 34) rfl rfl Try.func25 (by kernel_rfl) rfl #[.int .i64 x6_2] rfl (by (try simp only [List.map_toArray, List.map_cons, List.map_nil]); first | done | rfl | (simp only [List.length_drop, List.length_take]; rfl)) ?_; (with_reducible refine (vespersref01_Leap.calls x6_2 false _ A14.out).mono ?_); rintro e w' ⟨rfl, ⟨nd, rfl⟩⟩; refine ⟨_, rfl, ?_⟩))
                  go_roundg k2
                  case measure => have := HK1.out; have := HK2.out; omega
                  case rel => exact ⟨(wrap64 (x4_2 + 365)), (wrap64 (x6_2 + 1)), (by first | rfl | (simp; done) | (simp [*]; done)), (by first | rfl | (simp; done) | (simp [*]; done)), H', ⟨by have := HK1.out; have := HK2.out; omega⟩, ⟨by (with_reducible repeat (first | refine blk_drewN ?_ _ | refine blk_drew ?_ | refine blk_alloc ?_ _)); exact BK188.out⟩, ⟨by repeat (first | (with_reducible first | exact HB.out | apply below_alloc | apply pw_below_drewN | apply below_drew1 | refine below_set ?_ GE188.out) | exact HB.out)⟩⟩
              · rw [if_neg c13] at H
                have c13b0 : decide (x6_2 < a0_0) = false := decide_eq_false c13
                clear c13
                simp only [Option.some.injEq, Prod.mk.injEq] at H
                obtain ⟨rfl, rfl⟩ := H
                have hcz18_0 : wr.cell? ⟨gb188, 0, none⟩ = some (.int .i64 a0_0) := (blk_cell BK188.out 0).trans rfl
                have hcz18_1 : wr.cell? ⟨gb188, 1, none⟩ = some (.int .i64 a0_1) := (blk_cell BK188.out 1).trans rfl
                have hcz18_2 : wr.cell? ⟨gb188, 2, none⟩ = some (.int .i64 a0_2) := (blk_cell BK188.out 2).trans rfl
                have hfz18_0 := blk_frozen BK188.out 0
                have hfz18_1 := blk_frozen BK188.out 1
                have hfz18_2 := blk_frozen BK188.out 2
                go_wp2
                go_ret2
                exact ⟨by first | rfl | (simp [errW_none, errW_some] <;> rfl) | (simp [*, errW_none, errW_some] <;> rfl) | (simp only [IntWalk.i64_left]; rfl), by repeat (first | (with_reducible first | exact HB.out | apply below_alloc | apply pw_below_drewN | apply below_drew1 | refine below_set ?_ GE188.out) | exact HB.out)⟩
  · replace c3 := Bool.eq_false_iff.mpr c3
    subst c3
    have H1 : (some (0, false)) = some (r1, r2) := by rw [if_neg (show ¬ (false = true) by decide)] at H; exact H
    clear H
    have H := H1
    clear H1
    simp only [Option.some.injEq, Prod.mk.injEq] at H
    obtain ⟨rfl, rfl⟩ := H
    go_enter Try.func11, Try.ntmps11
    go_wp2_with (first | ((with_reducible refine gate_dst (N := 1) rfl ?_); refine box_event ?hg (N := 1) ?hd (cs := #[.int .i64 a0_0, .int .i64 a0_1, .int .i64 a0_2]) (t := 37) ?hr ?_; (case hd => rfl); (case hg => rfl); (case hr => first | (go_simp; done) | (go_simp; rfl)); intro gb188 hg w19 hbox hb; have n0_ := Aside0.mk (below_step (by repeat (first | (with_reducible first | exact HB.out | apply below_alloc | apply pw_below_drewN | apply below_drew1) | exact HB.out)) hb); have n1_ := Aside0.mk (hbox); have n2_ := Aside0.mk ((by rw [hg]; exact (below_size (by repeat (first | (with_reducible first | exact HB.out | apply below_alloc | apply pw_below_drewN | apply below_drew1) | exact HB.out))) : w.heap.size ≤ gb188)); have n3_ := Aside0.mk ((by rw [hg]; exact (below_size (by repeat (first | (with_reducible first | exact HB.out | apply below_alloc | apply pw_below_drewN | apply below_drew1) | exact HB.out))) : w.heap.size ≤ gb188)); clear HB; have HB := n0_; have BK188 := n1_; have GW188 := n2_; have GE188 := n3_; clear n0_ n1_ n2_ n3_; clear hb hbox hg; have hcz20_0 : w19.cell? ⟨gb188, 0, none⟩ = some (.int .i64 a0_0) := (blk_cell BK188.out 0).trans rfl; have hcz20_1 : w19.cell? ⟨gb188, 1, none⟩ = some (.int .i64 a0_1) := (blk_cell BK188.out 1).trans rfl; have hcz20_2 : w19.cell? ⟨gb188, 2, none⟩ = some (.int .i64 a0_2) := (blk_cell BK188.out 2).trans rfl; have hfz20_0 := blk_frozen BK188.out 0; have hfz20_1 := blk_frozen BK188.out 1; have hfz20_2 := blk_frozen BK188.out 2) | ((with_reducible refine gate_callee (f := 23) rfl ?_); refine goesL_ (some 8) rfl rfl Try.func23 (by kernel_rfl) rfl #[.agg #[.int .i64 a0_0, .int .i64 a0_1, .int .i64 a0_2]] rfl (by (try simp only [List.map_toArray, List.map_cons, List.map_nil]); first | done | rfl | (simp only [List.length_drop, List.length_take]; rfl)) ?_; (with_reducible refine (vespersref01_May.calls k a0_0 a0_1 a0_2 false _ A2.out).mono ?_); rintro e w21 ⟨rfl, hb⟩; refine ⟨_, rfl, ?_⟩; have n0_ := Aside0.mk (blk_below (g := gb188) (o := .cells #[.int .i64 a0_0, .int .i64 a0_1, .int .i64 a0_2] 37 (0, 0)) (by (with_reducible repeat (first | refine blk_drewN ?_ _ | refine blk_drew ?_ | refine blk_alloc ?_ _)); exact BK188.out) hb); have n1_ := Aside0.mk (below_step (by repeat (first | (with_reducible first | exact HB.out | apply below_alloc | apply pw_below_drewN | apply below_drew1 | refine below_set ?_ GE188.out) | exact HB.out)) hb); clear BK188; clear HB; have BK188 := n0_; have HB := n1_; clear n0_ n1_; (try clear hb); (try clear hb2); (try clear hk); (try clear hi)))
    go_ret2
    exact ⟨by first | rfl | (simp [errW_none, errW_some] <;> rfl) | (simp [*, errW_none, errW_some] <;> rfl) | (simp only [IntWalk.i64_left]; rfl), by repeat (first | (with_reducible first | exact HB.out | apply below_alloc | apply pw_below_drewN | apply below_drew1 | refine below_set ?_ GE188.out) | exact HB.out)⟩

end Go.Proofs.Ytinjbpbpgogdhaa.Own
end
section
namespace Go.Proofs.Ytinjbpbpgogdhaa.Own
open Go.RowKit Go.Proofs.YtinjbpbpgogdhaaW.PrintWords Go.Proofs.YtinjbpbpgogdhaaW.PrintLast Go.Proofs.YtinjbpbpgogdhaaW.PrintMore
set_option linter.unusedVariables false
set_option linter.unusedSimpArgs false
/-- A block of cells, read and written. -/
theorem blk_cell {w : World} {b : Nat} {cs : Array Value} {t : TypeId} (h : w.heap[b]? = some (.cells cs t (0, 0))) (i : Nat) : w.cell? ⟨b, i, none⟩ = cs[i]? := by simp [World.cell?, h]
theorem blk_frozen {w : World} {b : Nat} {cs : Array Value} {t : TypeId} (h : w.heap[b]? = some (.cells cs t (0, 0))) (i : Nat) : w.frozen? ⟨b, i, none⟩ = false := by simp [World.frozen?, h]
theorem set_other {w : World} {b : Nat} {o : Option Obj} (h : w.heap[b]? = o) (a : Addr) (v : Value) (hne : b ≠ a.block) : (w.setCell a v).heap[b]? = o := (heap_setCell_other w a b v hne).trans h
theorem keep_below {w w' : World} {b : Nat} {o : Obj} (hb : Below w.heap.size w w') (h : w.heap[b]? = some o) : w'.heap[b]? = some o :=
  (hb.block b (Array.getElem?_eq_some_iff.1 h).1).trans h
theorem keep_alloc {w : World} {b : Nat} {o : Obj} (h : w.heap[b]? = some o) (x : Obj) : (w.alloc x).heap[b]? = some o := by
  have hlt := (Array.getElem?_eq_some_iff.1 h).1
  show (w.heap.push x)[b]? = _
  rw [Array.getElem?_push, if_neg (by omega), h]
theorem ne_type {w : World} {a b : Nat} {ca cb : Array Value} {ta tb : TypeId} (ha : w.heap[a]? = some (.cells ca ta (0, 0))) (hb : w.heap[b]? = some (.cells cb tb (0, 0))) (h : ta ≠ tb) : a ≠ b := by
  intro e
  rw [e, hb] at ha
  simp only [Option.some.injEq, Obj.cells.injEq] at ha
  exact h ha.2.1.symm
theorem heap_lt {w : World} {b : Nat} {o : Obj} (h : w.heap[b]? = some o) : b < w.heap.size := (Array.getElem?_eq_some_iff.1 h).1
theorem alloc_blk (w : World) (cs : Array Value) (t : TypeId) : (w.alloc (.cells cs t)).heap[w.heap.size]? = some (.cells cs t (0, 0)) := by
  show (w.heap.push _)[w.heap.size]? = _
  simp
theorem alloc_size (w : World) (o : Obj) : (w.alloc o).heap.size = w.heap.size + 1 := by
  show (w.heap.push _).size = _
  simp
theorem below_new_ {w : World} {o : Obj} : Below w.heap.size w (w.alloc o) := (Below.refl _ _).alloc (Nat.le_refl _) o
theorem cell_eq {a : Option Value} {o : Option Value} {b : Value} (h : a = o) (e : o = some b) : a = some b := h.trans e
/-- A piece of a function's code: the region of a number. -/
def regC (k : Nat) : Code → Option Code
  | .region id ops d => if id = k then some (.region id ops d) else none
  | .seq a b => match regC k a with
    | some c => some c
    | none => regC k b
  | .cond _ a b => match regC k a with
    | some c => some c
    | none => regC k b
  | .block _ c => regC k c
  | .scope c => regC k c
  | .loop c => regC k c
  | _ => none
/-- A call of a function value that lies in a slot. -/
theorem goesF_ {P : Program} {ops : Array Oper} {Q : Exit → Act → World → Prop} {oi : Oper} {N : Option Tmp} {a : Act} {w : World} {K : Act → World → Prop} {f : FuncId} {fn : Func} {ars : Array Operand} {ts : Array TypeId} {x : Operand} (hf : P.funcs[f]? = some fn) (hname : (fn.name == "runtime.NumGoroutine") = false) (hb : fn.body.isSome = true) (args : Array Value)
    (hw : Region.wanted oi (yielded ops a.tmps) = true) (hN : oi.dst = N) (hop : oi.op = .call { callee := .value x, args := ars, argTypes := ts }) (hx : a.eval x = .func (.func f) #[] #[]) (hargs : ars.map a.eval = args)
    (h : Calls P f args w fun e w' => ∃ v, e = .returned v ∧ K (a.put N v) w') : if Region.wanted oi (yielded ops a.tmps) = true then Oper.wp P oi a w K Q else K (a.put N undef) w := by
  refine call_ f args hw hN ?_ h
  have he := enters_ hf hname hb args w
  unfold execOp
  simp [hop, resolve, Deferred.ofValue, invoke, hx, hargs, he]
end Go.Proofs.Ytinjbpbpgogdhaa.Own
end
