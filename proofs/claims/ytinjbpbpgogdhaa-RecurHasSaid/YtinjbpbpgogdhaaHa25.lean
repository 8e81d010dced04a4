-- own text: texts of this session merged by a program of it (merge.py), declarations that nothing reaches left out (prune.py)
import Derived.Test.YtinjbpbpgogdhaaHa04
import Derived.Test.YtinjbpbpgogdhaaHa12
import Derived.Test.YtinjbpbpgogdhaaHa24
section
namespace Go.Proofs.Ytinjbpbpgogdhaa.Own
open Go.RowKit Go.Proofs.YtinjbpbpgogdhaaW.PrintWords Go.Proofs.YtinjbpbpgogdhaaW.PrintLast Go.Proofs.YtinjbpbpgogdhaaW.PrintMore
attribute [local go_sem] max2_int min2_int max_two min_two max_three min_three max_four min_four   -- for this text's walks alone
set_option linter.unusedVariables false
set_option linter.unusedSimpArgs false

/-! ### vespersref09_May: function 7 -/
mutual
def vespersref09_May.j0 : Nat → Bool → Int → Int → Int → Int → List Int → List Int → List (S58) → List Int → Int → Option (Bool)
  | 0, _, _, _, _, _, _, _, _, _, _ => none
  | k + 1, x40, x175000, x175001, x175002, x175003, x175004, x175005, x175006, x175007, x175008 => if x40 = true then (some false) else (if x175003 = (-1) then (vespersref09_May.j1 k false x175000 x175001 x175002 x175003 x175004 x175005 x175006 x175007 x175008) else (if x175003 < 0 then (vespersref09_May.j1 k true x175000 x175001 x175002 x175003 x175004 x175005 x175006 x175007 x175008) else (if x175003 ≥ 158310720 then (vespersref09_May.j1 k true x175000 x175001 x175002 x175003 x175004 x175005 x175006 x175007 x175008) else (vespersref09_May.j1 k (decide (x175002 > 0)) x175000 x175001 x175002 x175003 x175004 x175005 x175006 x175007 x175008))))
def vespersref09_May.j1 : Nat → Bool → Int → Int → Int → Int → List Int → List Int → List (S58) → List Int → Int → Option (Bool)
  | 0, _, _, _, _, _, _, _, _, _, _ => none
  | k + 1, x58, x175000, x175001, x175002, x175003, x175004, x175005, x175006, x175007, x175008 => if x58 = true then (some false) else ((vespersref09_row.f k x175004 12 false).bind fun t175 => (if t175 = true then ((vespersref09_row.f k x175005 31 true).bind fun t176 => (if t176 = true then ((vespersref09_row.f k x175007 366 true).bind fun t177 => (if t177 = true then ((vespersref09_days.f k x175000 x175001 x175002 x175003 x175004 x175005 x175006 x175007 x175008).bind fun t178 => (vespersref09_May.j2 k (!t178) x175000 x175001 x175002 x175003 x175004 x175005 x175006 x175007 x175008)) else (vespersref09_May.j2 k true x175000 x175001 x175002 x175003 x175004 x175005 x175006 x175007 x175008))) else (vespersref09_May.j2 k true x175000 x175001 x175002 x175003 x175004 x175005 x175006 x175007 x175008))) else (vespersref09_May.j2 k true x175000 x175001 x175002 x175003 x175004 x175005 x175006 x175007 x175008)))
def vespersref09_May.j2 : Nat → Bool → Int → Int → Int → Int → List Int → List Int → List (S58) → List Int → Int → Option (Bool)
  | 0, _, _, _, _, _, _, _, _, _, _ => none
  | k + 1, x79, x175000, x175001, x175002, x175003, x175004, x175005, x175006, x175007, x175008 => if x79 = true then (some false) else (if x175000 = 2 then (if (x175005.length : Int) > 0 then (some false) else (if (x175007.length : Int) = 0 then (some true) else (if (x175004.length : Int) > 0 then (some true) else (some (decide ((x175006.length : Int) > 0)))))) else (if (x175007.length : Int) = 0 then (some true) else (if (x175004.length : Int) > 0 then (some true) else (if (x175005.length : Int) > 0 then (some true) else (some (decide ((x175006.length : Int) > 0)))))))
end
def vespersref09_May.f (k : Nat) (a0_0 : Int) (a0_1 : Int) (a0_2 : Int) (a0_3 : Int) (l0_4 : List Int) (l0_5 : List Int) (l0_6 : List (S58)) (l0_7 : List Int) (a0_8 : Int) : Option (Bool) := if a0_0 < 1 then (vespersref09_May.j0 k true a0_0 a0_1 a0_2 a0_3 l0_4 l0_5 l0_6 l0_7 a0_8) else (if a0_0 > 4 then (vespersref09_May.j0 k true a0_0 a0_1 a0_2 a0_3 l0_4 l0_5 l0_6 l0_7 a0_8) else (if a0_1 < 1 then (vespersref09_May.j0 k true a0_0 a0_1 a0_2 a0_3 l0_4 l0_5 l0_6 l0_7 a0_8) else (if a0_1 > 999 then (vespersref09_May.j0 k true a0_0 a0_1 a0_2 a0_3 l0_4 l0_5 l0_6 l0_7 a0_8) else (if a0_2 < 0 then (vespersref09_May.j0 k true a0_0 a0_1 a0_2 a0_3 l0_4 l0_5 l0_6 l0_7 a0_8) else (if a0_2 > 5000 then (vespersref09_May.j0 k true a0_0 a0_1 a0_2 a0_3 l0_4 l0_5 l0_6 l0_7 a0_8) else (if a0_8 < 0 then (vespersref09_May.j0 k true a0_0 a0_1 a0_2 a0_3 l0_4 l0_5 l0_6 l0_7 a0_8) else (vespersref09_May.j0 k (decide (a0_8 > 6)) a0_0 a0_1 a0_2 a0_3 l0_4 l0_5 l0_6 l0_7 a0_8)))))))
theorem vespersref09_May.mono_l : ∀ k, (∀ y0 y1 y2 y3 y4 y5 y6 y7 y8 y9, LeO (vespersref09_May.j0 k y0 y1 y2 y3 y4 y5 y6 y7 y8 y9) (vespersref09_May.j0 (k + 1) y0 y1 y2 y3 y4 y5 y6 y7 y8 y9)) ∧ (∀ y0 y1 y2 y3 y4 y5 y6 y7 y8 y9, LeO (vespersref09_May.j1 k y0 y1 y2 y3 y4 y5 y6 y7 y8 y9) (vespersref09_May.j1 (k + 1) y0 y1 y2 y3 y4 y5 y6 y7 y8 y9)) ∧ (∀ y0 y1 y2 y3 y4 y5 y6 y7 y8 y9, LeO (vespersref09_May.j2 k y0 y1 y2 y3 y4 y5 y6 y7 y8 y9) (vespersref09_May.j2 (k + 1) y0 y1 y2 y3 y4 y5 y6 y7 y8 y9))
  | 0 => ⟨fun _ _ _ _ _ _ _ _ _ _ r h => by simp [vespersref09_May.j0] at h, fun _ _ _ _ _ _ _ _ _ _ r h => by simp [vespersref09_May.j1] at h, fun _ _ _ _ _ _ _ _ _ _ r h => by simp [vespersref09_May.j2] at h⟩
  | k + 1 => by
    obtain ⟨ih0, ih1, ih2⟩ := vespersref09_May.mono_l k
    refine ⟨?_, ?_, ?_⟩
    · intro y0 y1 y2 y3 y4 y5 y6 y7 y8 y9
      unfold vespersref09_May.j0
      repeat' first
      | (with_reducible exact ih0 _ _ _ _ _ _ _ _ _ _)
      | (with_reducible exact ih1 _ _ _ _ _ _ _ _ _ _)
      | (with_reducible exact ih2 _ _ _ _ _ _ _ _ _ _)
      | (with_reducible exact vespersref09_days.mono _ _ _ _ _ _ _ _ _ _)
      | (with_reducible exact vespersref09_row.mono _ _ _ _)
      | (with_reducible exact LeO.refl _)
      | (with_reducible exact LeO.none _)
      | (with_reducible refine LeO.ite ?_ ?_)
      | (with_reducible refine LeO.bind ?_ (fun _ => ?_))
      | exact ih0 _ _ _ _ _ _ _ _ _ _
      | exact ih1 _ _ _ _ _ _ _ _ _ _
      | exact ih2 _ _ _ _ _ _ _ _ _ _
      | exact vespersref09_days.mono _ _ _ _ _ _ _ _ _ _
      | exact vespersref09_row.mono _ _ _ _
      | exact LeO.none _
      | refine LeO.ite ?_ ?_
      | refine LeO.bind ?_ (fun _ => ?_)
    · intro y0 y1 y2 y3 y4 y5 y6 y7 y8 y9
      unfold vespersref09_May.j1
      repeat' first
      | (with_reducible exact ih0 _ _ _ _ _ _ _ _ _ _)
      | (with_reducible exact ih1 _ _ _ _ _ _ _ _ _ _)
      | (with_reducible exact ih2 _ _ _ _ _ _ _ _ _ _)
      | (with_reducible exact vespersref09_days.mono _ _ _ _ _ _ _ _ _ _)
      | (with_reducible exact vespersref09_row.mono _ _ _ _)
      | (with_reducible exact LeO.refl _)
      | (with_reducible exact LeO.none _)
      | (with_reducible refine LeO.ite ?_ ?_)
      | (with_reducible refine LeO.bind ?_ (fun _ => ?_))
      | exact ih0 _ _ _ _ _ _ _ _ _ _
      | exact ih1 _ _ _ _ _ _ _ _ _ _
      | exact ih2 _ _ _ _ _ _ _ _ _ _
      | exact vespersref09_days.mono _ _ _ _ _ _ _ _ _ _
      | exact vespersref09_row.mono _ _ _ _
      | exact LeO.none _
      | refine LeO.ite ?_ ?_
      | refine LeO.bind ?_ (fun _ => ?_)
    · intro y0 y1 y2 y3 y4 y5 y6 y7 y8 y9
      unfold vespersref09_May.j2
      repeat' first
      | (with_reducible exact ih0 _ _ _ _ _ _ _ _ _ _)
      | (with_reducible exact ih1 _ _ _ _ _ _ _ _ _ _)
      | (with_reducible exact ih2 _ _ _ _ _ _ _ _ _ _)
      | (with_reducible exact vespersref09_days.mono _ _ _ _ _ _ _ _ _ _)
      | (with_reducible exact vespersref09_row.mono _ _ _ _)
      | (with_reducible exact LeO.refl _)
      | (with_reducible exact LeO.none _)
      | (with_reducible refine LeO.ite ?_ ?_)
      | (with_reducible refine LeO.bind ?_ (fun _ => ?_))
      | exact ih0 _ _ _ _ _ _ _ _ _ _
      | exact ih1 _ _ _ _ _ _ _ _ _ _
      | exact ih2 _ _ _ _ _ _ _ _ _ _
      | exact vespersref09_days.mono _ _ _ _ _ _ _ _ _ _
      | exact vespersref09_row.mono _ _ _ _
      | exact LeO.none _
      | refine LeO.ite ?_ ?_
      | refine LeO.bind ?_ (fun _ => ?_)
theorem vespersref09_May.mono : ∀ a0 a1 a2 a3 a4 a5 a6 a7 a8 k, LeO (vespersref09_May.f k a0 a1 a2 a3 a4 a5 a6 a7 a8) (vespersref09_May.f (k + 1) a0 a1 a2 a3 a4 a5 a6 a7 a8) := by
  intro a0 a1 a2 a3 a4 a5 a6 a7 a8 k
  obtain ⟨ih0, ih1, ih2⟩ := vespersref09_May.mono_l k
  unfold vespersref09_May.f
  repeat' first
      | (with_reducible exact ih0 _ _ _ _ _ _ _ _ _ _)
      | (with_reducible exact ih1 _ _ _ _ _ _ _ _ _ _)
      | (with_reducible exact ih2 _ _ _ _ _ _ _ _ _ _)
      | (with_reducible exact vespersref09_days.mono _ _ _ _ _ _ _ _ _ _)
      | (with_reducible exact vespersref09_row.mono _ _ _ _)
      | (with_reducible exact LeO.refl _)
      | (with_reducible exact LeO.none _)
      | (with_reducible refine LeO.ite ?_ ?_)
      | (with_reducible refine LeO.bind ?_ (fun _ => ?_))
      | exact ih0 _ _ _ _ _ _ _ _ _ _
      | exact ih1 _ _ _ _ _ _ _ _ _ _
      | exact ih2 _ _ _ _ _ _ _ _ _ _
      | exact vespersref09_days.mono _ _ _ _ _ _ _ _ _ _
      | exact vespersref09_row.mono _ _ _ _
      | exact LeO.none _
      | refine LeO.ite ?_ ?_
      | refine LeO.bind ?_ (fun _ => ?_)
set_option maxHeartbeats 8000000 in
set_option maxRecDepth 100000 in
theorem vespersref09_May.calls (k : Nat) (a0_0 : Int) (a0_1 : Int) (a0_2 : Int) (a0_3 : Int) (A0_4 : Option Addr) (c0_4 : Nat) (l0_4 : List Int) (A0_5 : Option Addr) (c0_5 : Nat) (l0_5 : List Int) (A0_6 : Option Addr) (c0_6 : Nat) (l0_6 : List (S58)) (A0_7 : Option Addr) (c0_7 : Nat) (l0_7 : List Int) (a0_8 : Int) (r : Bool) (w : World) (hr0_4 : Kd.C (Kd.int .i64) w A0_4 l0_4.length l0_4) (hc0_4 : l0_4.length ≤ c0_4) (hr0_5 : Kd.C (Kd.int .i64) w A0_5 l0_5.length l0_5) (hc0_5 : l0_5.length ≤ c0_5) (hr0_6 : Kd.C k58 w A0_6 l0_6.length l0_6) (hc0_6 : l0_6.length ≤ c0_6) (hr0_7 : Kd.C (Kd.int .i64) w A0_7 l0_7.length l0_7) (hc0_7 : l0_7.length ≤ c0_7) (h : vespersref09_May.f k a0_0 a0_1 a0_2 a0_3 l0_4 l0_5 l0_6 l0_7 a0_8 = some r) :
    Calls Try.prog 7 #[.agg #[.int .i64 a0_0, .int .i64 a0_1, .int .i64 a0_2, .int .i64 a0_3, .slice A0_4 l0_4.length c0_4, .slice A0_5 l0_5.length c0_5, .slice A0_6 l0_6.length c0_6, .slice A0_7 l0_7.length c0_7, .int .i64 a0_8]] w fun e w' => e = .returned (.bool r) ∧ Below w.heap.size w w' := by
  have hu25 := Try.underlying25
  have HR0_4 := Aside0.mk hr0_4
  have HC0_4 := Aside0.mk hc0_4
  clear hr0_4 hc0_4
  have HR0_5 := Aside0.mk hr0_5
  have HC0_5 := Aside0.mk hc0_5
  clear hr0_5 hc0_5
  have HR0_6 := Aside0.mk hr0_6
  have HC0_6 := Aside0.mk hc0_6
  clear hr0_6 hc0_6
  have HR0_7 := Aside0.mk hr0_7
  have HC0_7 := Aside0.mk hc0_7
  clear hr0_7 hc0_7
  have HB := Aside0.mk (Below.refl w.heap.size w)
  have H : (if a0_0 < 1 then (vespersref09_May.j0 k true a0_0 a0_1 a0_2 a0_3 l0_4 l0_5 l0_6 l0_7 a0_8) else (if a0_0 > 4 then (vespersref09_May.j0 k true a0_0 a0_1 a0_2 a0_3 l0_4 l0_5 l0_6 l0_7 a0_8) else (if a0_1 < 1 then (vespersref09_May.j0 k true a0_0 a0_1 a0_2 a0_3 l0_4 l0_5 l0_6 l0_7 a0_8) else (if a0_1 > 999 then (vespersref09_May.j0 k true a0_0 a0_1 a0_2 a0_3 l0_4 l0_5 l0_6 l0_7 a0_8) else (if a0_2 < 0 then (vespersref09_May.j0 k true a0_0 a0_1 a0_2 a0_3 l0_4 l0_5 l0_6 l0_7 a0_8) else (if a0_2 > 5000 then (vespersref09_May.j0 k true a0_0 a0_1 a0_2 a0_3 l0_4 l0_5 l0_6 l0_7 a0_8) else (if a0_8 < 0 then (vespersref09_May.j0 k true a0_0 a0_1 a0_2 a0_3 l0_4 l0_5 l0_6 l0_7 a0_8) else (vespersref09_May.j0 k (decide (a0_8 > 6)) a0_0 a0_1 a0_2 a0_3 l0_4 l0_5 l0_6 l0_7 a0_8)))))))) = some r := h
  clear h
  have HC2 := Aside0.mk H
  clear H
  go_enter Try.func7, Try.ntmps7
  go_upto_region 1 with (first | ((with_reducible refine gate_dst (N := 1) rfl ?_); (try (refine gate_guard (by rfl) ?_; dsimp only)); refine box_event ?hg (N := 1) ?hd (cs := #[.int .i64 a0_0, .int .i64 a0_1, .int .i64 a0_2, .int .i64 a0_3, .slice A0_4 l0_4.length c0_4, .slice A0_5 l0_5.length c0_5, .slice A0_6 l0_6.length c0_6, .slice A0_7 l0_7.length c0_7, .int .i64 a0_8]) (t := 25) ?hr ?_; (case hd => rfl); (case hg => rfl); (case hr => first | (go_simp; done) | (go_simp; rfl)); intro gb174 hg w3 hbox hb; have n0_ := Aside0.mk (below_step (by repeat (first | (with_reducible first | exact HB.out | apply below_alloc | apply pw_below_drewN | apply below_drew1) | exact HB.out)) hb); have n1_ := Aside0.mk (hbox); have n2_ := Aside0.mk ((by rw [hg]; exact (below_size (by repeat (first | (with_reducible first | exact HB.out | apply below_alloc | apply pw_below_drewN | apply below_drew1) | exact HB.out))) : w.heap.size ≤ gb174)); have n3_ := Aside0.mk ((by rw [hg]; exact (below_size (by repeat (first | (with_reducible first | exact HB.out | apply below_alloc | apply pw_below_drewN | apply below_drew1) | exact HB.out))) : w.heap.size ≤ gb174)); clear HB; have HB := n0_; have BK174 := n1_; have GW174 := n2_; have GE174 := n3_; clear n0_ n1_ n2_ n3_; clear hb hbox hg))
  (try simp only [Act.put, List.setIfInBounds_toArray, List.set_cons_zero, List.set_cons_succ])
  go_cut [40] (fun v40 wc => ∃ (kq : Nat) (x40_1 : Bool), v40 = .bool x40_1 ∧ Aside0 (vespersref09_May.j0 kq x40_1 a0_0 a0_1 a0_2 a0_3 l0_4 l0_5 l0_6 l0_7 a0_8 = some r) ∧ Aside0 (kq ≤ k) ∧ Aside0 (wc.heap[gb174]? = some (.cells #[.int .i64 a0_0, .int .i64 a0_1, .int .i64 a0_2, .int .i64 a0_3, (.slice A0_4 l0_4.length c0_4), (.slice A0_5 l0_5.length c0_5), (.slice A0_6 l0_6.length c0_6), (.slice A0_7 l0_7.length c0_7), .int .i64 a0_8] 25 (0, 0))) ∧ Aside0 (Below w.heap.size w wc))
  case first =>
    have H := HC2.out
    clear HC2
    by_cases c4 : a0_0 < 1
    · rw [if_pos c4] at H
      have c4b0 : decide (a0_0 < 1) = true := decide_eq_true c4
      clear c4
      (first | rw [c4b0] | (simp only [i64_w, i32_w]; rw [c4b0]) | skip)
      have H' := Aside0.mk H
      clear H
      have hcz5_0 : w3.cell? ⟨gb174, 0, none⟩ = some (.int .i64 a0_0) := (blk_cell BK174.out 0).trans rfl
      have hcz5_1 : w3.cell? ⟨gb174, 1, none⟩ = some (.int .i64 a0_1) := (blk_cell BK174.out 1).trans rfl
      have hcz5_2 : w3.cell? ⟨gb174, 2, none⟩ = some (.int .i64 a0_2) := (blk_cell BK174.out 2).trans rfl
      have hcz5_3 : w3.cell? ⟨gb174, 3, none⟩ = some (.int .i64 a0_3) := (blk_cell BK174.out 3).trans rfl
      have hcz5_4 : w3.cell? ⟨gb174, 4, none⟩ = some (.slice A0_4 l0_4.length c0_4) := (blk_cell BK174.out 4).trans rfl
      have hcz5_5 : w3.cell? ⟨gb174, 5, none⟩ = some (.slice A0_5 l0_5.length c0_5) := (blk_cell BK174.out 5).trans rfl
      have hcz5_6 : w3.cell? ⟨gb174, 6, none⟩ = some (.slice A0_6 l0_6.length c0_6) := (blk_cell BK174.out 6).trans rfl
      have hcz5_7 : w3.cell? ⟨gb174, 7, none⟩ = some (.slice A0_7 l0_7.length c0_7) := (blk_cell BK174.out 7).trans rfl
      have hcz5_8 : w3.cell? ⟨gb174, 8, none⟩ = some (.int .i64 a0_8) := (blk_cell BK174.out 8).trans rfl
      have hfz5_0 := blk_frozen BK174.out 0
      have hfz5_1 := blk_frozen BK174.out 1
      have hfz5_2 := blk_frozen BK174.out 2
      have hfz5_3 := blk_frozen BK174.out 3
      have hfz5_4 := blk_frozen BK174.out 4
      have hfz5_5 := blk_frozen BK174.out 5
      have hfz5_6 := blk_frozen BK174.out 6
      have hfz5_7 := blk_frozen BK174.out 7
      have hfz5_8 := blk_frozen BK174.out 8
      go_wp2
      go_meet
      case rel => exact ⟨_, (true), (by first | rfl | (simp; done) | (simp [*]; done)), H', ⟨by first | omega | exact Nat.le_refl _⟩, ⟨by (with_reducible repeat (first | refine blk_drewN ?_ _ | refine blk_drew ?_ | refine blk_alloc ?_ _)); exact BK174.out⟩, ⟨by repeat (first | (with_reducible first | exact HB.out | apply below_alloc | apply pw_below_drewN | apply below_drew1 | refine below_set ?_ GE174.out) | exact HB.out)⟩⟩
    · rw [if_neg c4] at H
      have c4b0 : decide (a0_0 < 1) = false := decide_eq_false c4
      clear c4
      (first | rw [c4b0] | (simp only [i64_w, i32_w]; rw [c4b0]) | skip)
      by_cases c6 : a0_0 > 4
      · rw [if_pos c6] at H
        have c6b0 : decide (4 < a0_0) = true := decide_eq_true c6
        clear c6
        have H' := Aside0.mk H
        clear H
        have hcz7_0 : w3.cell? ⟨gb174, 0, none⟩ = some (.int .i64 a0_0) := (blk_cell BK174.out 0).trans rfl
        have hcz7_1 : w3.cell? ⟨gb174, 1, none⟩ = some (.int .i64 a0_1) := (blk_cell BK174.out 1).trans rfl
        have hcz7_2 : w3.cell? ⟨gb174, 2, none⟩ = some (.int .i64 a0_2) := (blk_cell BK174.out 2).trans rfl
        have hcz7_3 : w3.cell? ⟨gb174, 3, none⟩ = some (.int .i64 a0_3) := (blk_cell BK174.out 3).trans rfl
        have hcz7_4 : w3.cell? ⟨gb174, 4, none⟩ = some (.slice A0_4 l0_4.length c0_4) := (blk_cell BK174.out 4).trans rfl
        have hcz7_5 : w3.cell? ⟨gb174, 5, none⟩ = some (.slice A0_5 l0_5.length c0_5) := (blk_cell BK174.out 5).trans rfl
        have hcz7_6 : w3.cell? ⟨gb174, 6, none⟩ = some (.slice A0_6 l0_6.length c0_6) := (blk_cell BK174.out 6).trans rfl
        have hcz7_7 : w3.cell? ⟨gb174, 7, none⟩ = some (.slice A0_7 l0_7.length c0_7) := (blk_cell BK174.out 7).trans rfl
        have hcz7_8 : w3.cell? ⟨gb174, 8, none⟩ = some (.int .i64 a0_8) := (blk_cell BK174.out 8).trans rfl
        have hfz7_0 := blk_frozen BK174.out 0
        have hfz7_1 := blk_frozen BK174.out 1
        have hfz7_2 := blk_frozen BK174.out 2
        have hfz7_3 := blk_frozen BK174.out 3
        have hfz7_4 := blk_frozen BK174.out 4
        have hfz7_5 := blk_frozen BK174.out 5
        have hfz7_6 := blk_frozen BK174.out 6
        have hfz7_7 := blk_frozen BK174.out 7
        have hfz7_8 := blk_frozen BK174.out 8
        go_wp2
        go_meet
        case rel => exact ⟨_, (true), (by first | rfl | (simp; done) | (simp [*]; done)), H', ⟨by first | omega | exact Nat.le_refl _⟩, ⟨by (with_reducible repeat (first | refine blk_drewN ?_ _ | refine blk_drew ?_ | refine blk_alloc ?_ _)); exact BK174.out⟩, ⟨by repeat (first | (with_reducible first | exact HB.out | apply below_alloc | apply pw_below_drewN | apply below_drew1 | refine below_set ?_ GE174.out) | exact HB.out)⟩⟩
      · rw [if_neg c6] at H
        have c6b0 : decide (4 < a0_0) = false := decide_eq_false c6
        clear c6
        by_cases c8 : a0_1 < 1
        · rw [if_pos c8] at H
          have c8b0 : decide (a0_1 < 1) = true := decide_eq_true c8
          clear c8
          have H' := Aside0.mk H
          clear H
          have hcz9_0 : w3.cell? ⟨gb174, 0, none⟩ = some (.int .i64 a0_0) := (blk_cell BK174.out 0).trans rfl
          have hcz9_1 : w3.cell? ⟨gb174, 1, none⟩ = some (.int .i64 a0_1) := (blk_cell BK174.out 1).trans rfl
          have hcz9_2 : w3.cell? ⟨gb174, 2, none⟩ = some (.int .i64 a0_2) := (blk_cell BK174.out 2).trans rfl
          have hcz9_3 : w3.cell? ⟨gb174, 3, none⟩ = some (.int .i64 a0_3) := (blk_cell BK174.out 3).trans rfl
          have hcz9_4 : w3.cell? ⟨gb174, 4, none⟩ = some (.slice A0_4 l0_4.length c0_4) := (blk_cell BK174.out 4).trans rfl
          have hcz9_5 : w3.cell? ⟨gb174, 5, none⟩ = some (.slice A0_5 l0_5.length c0_5) := (blk_cell BK174.out 5).trans rfl
          have hcz9_6 : w3.cell? ⟨gb174, 6, none⟩ = some (.slice A0_6 l0_6.length c0_6) := (blk_cell BK174.out 6).trans rfl
          have hcz9_7 : w3.cell? ⟨gb174, 7, none⟩ = some (.slice A0_7 l0_7.length c0_7) := (blk_cell BK174.out 7).trans rfl
          have hcz9_8 : w3.cell? ⟨gb174, 8, none⟩ = some (.int .i64 a0_8) := (blk_cell BK174.out 8).trans rfl
          have hfz9_0 := blk_frozen BK174.out 0
          have hfz9_1 := blk_frozen BK174.out 1
          have hfz9_2 := blk_frozen BK174.out 2
          have hfz9_3 := blk_frozen BK174.out 3
          have hfz9_4 := blk_frozen BK174.out 4
          have hfz9_5 := blk_frozen BK174.out 5
          have hfz9_6 := blk_frozen BK174.out 6
          have hfz9_7 := blk_frozen BK174.out 7
          have hfz9_8 := blk_frozen BK174.out 8
          go_wp2
          go_meet
          case rel => exact ⟨_, (true), (by first | rfl | (simp; done) | (simp [*]; done)), H', ⟨by first | omega | exact Nat.le_refl _⟩, ⟨by (with_reducible repeat (first | refine blk_drewN ?_ _ | refine blk_drew ?_ | refine blk_alloc ?_ _)); exact BK174.out⟩, ⟨by repeat (first | (with_reducible first | exact HB.out | apply below_alloc | apply pw_below_drewN | apply below_drew1 | refine below_set ?_ GE174.out) | exact HB.out)⟩⟩
        · rw [if_neg c8] at H
          have c8b0 : decide (a0_1 < 1) = false := decide_eq_false c8
          clear c8
          by_cases c10 : a0_1 > 999
          · rw [if_pos c10] at H
            have c10b0 : decide (999 < a0_1) = true := decide_eq_true c10
            clear c10
            have H' := Aside0.mk H
            clear H
            have hcz11_0 : w3.cell? ⟨gb174, 0, none⟩ = some (.int .i64 a0_0) := (blk_cell BK174.out 0).trans rfl
            have hcz11_1 : w3.cell? ⟨gb174, 1, none⟩ = some (.int .i64 a0_1) := (blk_cell BK174.out 1).trans rfl
            have hcz11_2 : w3.cell? ⟨gb174, 2, none⟩ = some (.int .i64 a0_2) := (blk_cell BK174.out 2).trans rfl
            have hcz11_3 : w3.cell? ⟨gb174, 3, none⟩ = some (.int .i64 a0_3) := (blk_cell BK174.out 3).trans rfl
            have hcz11_4 : w3.cell? ⟨gb174, 4, none⟩ = some (.slice A0_4 l0_4.length c0_4) := (blk_cell BK174.out 4).trans rfl
            have hcz11_5 : w3.cell? ⟨gb174, 5, none⟩ = some (.slice A0_5 l0_5.length c0_5) := (blk_cell BK174.out 5).trans rfl
            have hcz11_6 : w3.cell? ⟨gb174, 6, none⟩ = some (.slice A0_6 l0_6.length c0_6) := (blk_cell BK174.out 6).trans rfl
            have hcz11_7 : w3.cell? ⟨gb174, 7, none⟩ = some (.slice A0_7 l0_7.length c0_7) := (blk_cell BK174.out 7).trans rfl
            have hcz11_8 : w3.cell? ⟨gb174, 8, none⟩ = some (.int .i64 a0_8) := (blk_cell BK174.out 8).trans rfl
            have hfz11_0 := blk_frozen BK174.out 0
            have hfz11_1 := blk_frozen BK174.out 1
            have hfz11_2 := blk_frozen BK174.out 2
            have hfz11_3 := blk_frozen BK174.out 3
            have hfz11_4 := blk_frozen BK174.out 4
            have hfz11_5 := blk_frozen BK174.out 5
            have hfz11_6 := blk_frozen BK174.out 6
            have hfz11_7 := blk_frozen BK174.out 7
            have hfz11_8 := blk_frozen BK174.out 8
            go_wp2
            go_meet
            case rel => exact ⟨_, (true), (by first | rfl | (simp; done) | (simp [*]; done)), H', ⟨by first | omega | exact Nat.le_refl _⟩, ⟨by (with_reducible repeat (first | refine blk_drewN ?_ _ | refine blk_drew ?_ | refine blk_alloc ?_ _)); exact BK174.out⟩, ⟨by repeat (first | (with_reducible first | exact HB.out | apply below_alloc | apply pw_below_drewN | apply below_drew1 | refine below_set ?_ GE174.out) | exact HB.out)⟩⟩
          · rw [if_neg c10] at H
            have c10b0 : decide (999 < a0_1) = false := decide_eq_false c10
            clear c10
            by_cases c12 : a0_2 < 0
            · rw [if_pos c12] at H
              have c12b0 : decide (a0_2 < 0) = true := decide_eq_true c12
              clear c12
              have H' := Aside0.mk H
              clear H
              have hcz13_0 : w3.cell? ⟨gb174, 0, none⟩ = some (.int .i64 a0_0) := (blk_cell BK174.out 0).trans rfl
              have hcz13_1 : w3.cell? ⟨gb174, 1, none⟩ = some (.int .i64 a0_1) := (blk_cell BK174.out 1).trans rfl
              have hcz13_2 : w3.cell? ⟨gb174, 2, none⟩ = some (.int .i64 a0_2) := (blk_cell BK174.out 2).trans rfl
              have hcz13_3 : w3.cell? ⟨gb174, 3, none⟩ = some (.int .i64 a0_3) := (blk_cell BK174.out 3).trans rfl
              have hcz13_4 : w3.cell? ⟨gb174, 4, none⟩ = some (.slice A0_4 l0_4.length c0_4) := (blk_cell BK174.out 4).trans rfl
              have hcz13_5 : w3.cell? ⟨gb174, 5, none⟩ = some (.slice A0_5 l0_5.length c0_5) := (blk_cell BK174.out 5).trans rfl
              have hcz13_6 : w3.cell? ⟨gb174, 6, none⟩ = some (.slice A0_6 l0_6.length c0_6) := (blk_cell BK174.out 6).trans rfl
              have hcz13_7 : w3.cell? ⟨gb174, 7, none⟩ = some (.slice A0_7 l0_7.length c0_7) := (blk_cell BK174.out 7).trans rfl
              have hcz13_8 : w3.cell? ⟨gb174, 8, none⟩ = some (.int .i64 a0_8) := (blk_cell BK174.out 8).trans rfl
              have hfz13_0 := blk_frozen BK174.out 0
              have hfz13_1 := blk_frozen BK174.out 1
              have hfz13_2 := blk_frozen BK174.out 2
              have hfz13_3 := blk_frozen BK174.out 3
              have hfz13_4 := blk_frozen BK174.out 4
              have hfz13_5 := blk_frozen BK174.out 5
              have hfz13_6 := blk_frozen BK174.out 6
              have hfz13_7 := blk_frozen BK174.out 7
              have hfz13_8 := blk_frozen BK174.out 8
              go_wp2
              go_meet
              case rel => exact ⟨_, (true), (by first | rfl | (simp; done) | (simp [*]; done)), H', ⟨by first | omega | exact Nat.le_refl _⟩, ⟨by (with_reducible repeat (first | refine blk_drewN ?_ _ | refine blk_drew ?_ | refine blk_alloc ?_ _)); exact BK174.out⟩, ⟨by repeat (first | (with_reducible first | exact HB.out | apply below_alloc | apply pw_below_drewN | apply below_drew1 | refine below_set ?_ GE174.out) | exact HB.out)⟩⟩
            · rw [if_neg c12] at H
              have c12b0 : decide (a0_2 < 0) = false := decide_eq_false c12
              clear c12
              by_cases c14 : a0_2 > 5000
              · rw [if_pos c14] at H
                have c14b0 : decide (5000 < a0_2) = true := decide_eq_true c14
                clear c14
                have H' := Aside0.mk H
                clear H
                have hcz15_0 : w3.cell? ⟨gb174, 0, none⟩ = some (.int .i64 a0_0) := (blk_cell BK174.out 0).trans rfl
                have hcz15_1 : w3.cell? ⟨gb174, 1, none⟩ = some (.int .i64 a0_1) := (blk_cell BK174.out 1).trans rfl
                have hcz15_2 : w3.cell? ⟨gb174, 2, none⟩ = some (.int .i64 a0_2) := (blk_cell BK174.out 2).trans rfl
                have hcz15_3 : w3.cell? ⟨gb174, 3, none⟩ = some (.int .i64 a0_3) := (blk_cell BK174.out 3).trans rfl
                have hcz15_4 : w3.cell? ⟨gb174, 4, none⟩ = some (.slice A0_4 l0_4.length c0_4) := (blk_cell BK174.out 4).trans rfl
                have hcz15_5 : w3.cell? ⟨gb174, 5, none⟩ = some (.slice A0_5 l0_5.length c0_5) := (blk_cell BK174.out 5).trans rfl
                have hcz15_6 : w3.cell? ⟨gb174, 6, none⟩ = some (.slice A0_6 l0_6.length c0_6) := (blk_cell BK174.out 6).trans rfl
                have hcz15_7 : w3.cell? ⟨gb174, 7, none⟩ = some (.slice A0_7 l0_7.length c0_7) := (blk_cell BK174.out 7).trans rfl
                have hcz15_8 : w3.cell? ⟨gb174, 8, none⟩ = some (.int .i64 a0_8) := (blk_cell BK174.out 8).trans rfl
                have hfz15_0 := blk_frozen BK174.out 0
                have hfz15_1 := blk_frozen BK174.out 1
                have hfz15_2 := blk_frozen BK174.out 2
                have hfz15_3 := blk_frozen BK174.out 3
                have hfz15_4 := blk_frozen BK174.out 4
                have hfz15_5 := blk_frozen BK174.out 5
                have hfz15_6 := blk_frozen BK174.out 6
                have hfz15_7 := blk_frozen BK174.out 7
                have hfz15_8 := blk_frozen BK174.out 8
                go_wp2
                go_meet
                case rel => exact ⟨_, (true), (by first | rfl | (simp; done) | (simp [*]; done)), H', ⟨by first | omega | exact Nat.le_refl _⟩, ⟨by (with_reducible repeat (first | refine blk_drewN ?_ _ | refine blk_drew ?_ | refine blk_alloc ?_ _)); exact BK174.out⟩, ⟨by repeat (first | (with_reducible first | exact HB.out | apply below_alloc | apply pw_below_drewN | apply below_drew1 | refine below_set ?_ GE174.out) | exact HB.out)⟩⟩
              · rw [if_neg c14] at H
                have c14b0 : decide (5000 < a0_2) = false := decide_eq_false c14
                clear c14
                by_cases c16 : a0_8 < 0
                · rw [if_pos c16] at H
                  have c16b0 : decide (a0_8 < 0) = true := decide_eq_true c16
                  clear c16
                  have H' := Aside0.mk H
                  clear H
                  have hcz17_0 : w3.cell? ⟨gb174, 0, none⟩ = some (.int .i64 a0_0) := (blk_cell BK174.out 0).trans rfl
                  have hcz17_1 : w3.cell? ⟨gb174, 1, none⟩ = some (.int .i64 a0_1) := (blk_cell BK174.out 1).trans rfl
                  have hcz17_2 : w3.cell? ⟨gb174, 2, none⟩ = some (.int .i64 a0_2) := (blk_cell BK174.out 2).trans rfl
                  have hcz17_3 : w3.cell? ⟨gb174, 3, none⟩ = some (.int .i64 a0_3) := (blk_cell BK174.out 3).trans rfl
                  have hcz17_4 : w3.cell? ⟨gb174, 4, none⟩ = some (.slice A0_4 l0_4.length c0_4) := (blk_cell BK174.out 4).trans rfl
                  have hcz17_5 : w3.cell? ⟨gb174, 5, none⟩ = some (.slice A0_5 l0_5.length c0_5) := (blk_cell BK174.out 5).trans rfl
                  have hcz17_6 : w3.cell? ⟨gb174, 6, none⟩ = some (.slice A0_6 l0_6.length c0_6) := (blk_cell BK174.out 6).trans rfl
                  have hcz17_7 : w3.cell? ⟨gb174, 7, none⟩ = some (.slice A0_7 l0_7.length c0_7) := (blk_cell BK174.out 7).trans rfl
                  have hcz17_8 : w3.cell? ⟨gb174, 8, none⟩ = some (.int .i64 a0_8) := (blk_cell BK174.out 8).trans rfl
                  have hfz17_0 := blk_frozen BK174.out 0
                  have hfz17_1 := blk_frozen BK174.out 1
                  have hfz17_2 := blk_frozen BK174.out 2
                  have hfz17_3 := blk_frozen BK174.out 3
                  have hfz17_4 := blk_frozen BK174.out 4
                  have hfz17_5 := blk_frozen BK174.out 5
                  have hfz17_6 := blk_frozen BK174.out 6
                  have hfz17_7 := blk_frozen BK174.out 7
                  have hfz17_8 := blk_frozen BK174.out 8
                  go_wp2
                  go_meet
                  case rel => exact ⟨_, (true), (by first | rfl | (simp; done) | (simp [*]; done)), H', ⟨by first | omega | exact Nat.le_refl _⟩, ⟨by (with_reducible repeat (first | refine blk_drewN ?_ _ | refine blk_drew ?_ | refine blk_alloc ?_ _)); exact BK174.out⟩, ⟨by repeat (first | (with_reducible first | exact HB.out | apply below_alloc | apply pw_below_drewN | apply below_drew1 | refine below_set ?_ GE174.out) | exact HB.out)⟩⟩
                · rw [if_neg c16] at H
                  have c16b0 : decide (a0_8 < 0) = false := decide_eq_false c16
                  clear c16
                  have H' := Aside0.mk H
                  clear H
                  have hcz18_0 : w3.cell? ⟨gb174, 0, none⟩ = some (.int .i64 a0_0) := (blk_cell BK174.out 0).trans rfl
                  have hcz18_1 : w3.cell? ⟨gb174, 1, none⟩ = some (.int .i64 a0_1) := (blk_cell BK174.out 1).trans rfl
                  have hcz18_2 : w3.cell? ⟨gb174, 2, none⟩ = some (.int .i64 a0_2) := (blk_cell BK174.out 2).trans rfl
                  have hcz18_3 : w3.cell? ⟨gb174, 3, none⟩ = some (.int .i64 a0_3) := (blk_cell BK174.out 3).trans rfl
                  have hcz18_4 : w3.cell? ⟨gb174, 4, none⟩ = some (.slice A0_4 l0_4.length c0_4) := (blk_cell BK174.out 4).trans rfl
                  have hcz18_5 : w3.cell? ⟨gb174, 5, none⟩ = some (.slice A0_5 l0_5.length c0_5) := (blk_cell BK174.out 5).trans rfl
                  have hcz18_6 : w3.cell? ⟨gb174, 6, none⟩ = some (.slice A0_6 l0_6.length c0_6) := (blk_cell BK174.out 6).trans rfl
                  have hcz18_7 : w3.cell? ⟨gb174, 7, none⟩ = some (.slice A0_7 l0_7.length c0_7) := (blk_cell BK174.out 7).trans rfl
                  have hcz18_8 : w3.cell? ⟨gb174, 8, none⟩ = some (.int .i64 a0_8) := (blk_cell BK174.out 8).trans rfl
                  have hfz18_0 := blk_frozen BK174.out 0
                  have hfz18_1 := blk_frozen BK174.out 1
                  have hfz18_2 := blk_frozen BK174.out 2
                  have hfz18_3 := blk_frozen BK174.out 3
                  have hfz18_4 := blk_frozen BK174.out 4
                  have hfz18_5 := blk_frozen BK174.out 5
                  have hfz18_6 := blk_frozen BK174.out 6
                  have hfz18_7 := blk_frozen BK174.out 7
                  have hfz18_8 := blk_frozen BK174.out 8
                  go_wp2
                  go_meet
                  case rel => exact ⟨_, (decide (a0_8 > 6)), (by first | rfl | (simp; done) | (simp [*]; done)), H', ⟨by first | omega | exact Nat.le_refl _⟩, ⟨by (with_reducible repeat (first | refine blk_drewN ?_ _ | refine blk_drew ?_ | refine blk_alloc ?_ _)); exact BK174.out⟩, ⟨by repeat (first | (with_reducible first | exact HB.out | apply below_alloc | apply pw_below_drewN | apply below_drew1 | refine below_set ?_ GE174.out) | exact HB.out)⟩⟩
  case rest =>
    clear HC2
    try clear c1
    try clear p2
    try clear c4
    try clear c4b0
    try clear c6
    try clear c6b0
    try clear c7
    try clear c8
    try clear c8b0
    try clear c10
    try clear c10b0
    try clear c12
    try clear c12b0
    try clear c14
    try clear c14b0
    try clear c16
    try clear c16b0
    try clear hcz11_0
    try clear hcz11_1
    try clear hcz11_2
    try clear hcz11_3
    try clear hcz11_4
    try clear hcz11_5
    try clear hcz11_6
    try clear hcz11_7
    try clear hcz11_8
    try clear hcz13_0
    try clear hcz13_1
    try clear hcz13_2
    try clear hcz13_3
    try clear hcz13_4
    try clear hcz13_5
    try clear hcz13_6
    try clear hcz13_7
    try clear hcz13_8
    try clear hcz15_0
    try clear hcz15_1
    try clear hcz15_2
    try clear hcz15_3
    try clear hcz15_4
    try clear hcz15_5
    try clear hcz15_6
    try clear hcz15_7
    try clear hcz15_8
    try clear hcz17_0
    try clear hcz17_1
    try clear hcz17_2
    try clear hcz17_3
    try clear hcz17_4
    try clear hcz17_5
    try clear hcz17_6
    try clear hcz17_7
    try clear hcz17_8
    try clear hcz18_0
    try clear hcz18_1
    try clear hcz18_2
    try clear hcz18_3
    try clear hcz18_4
    try clear hcz18_5
    try clear hcz18_6
    try clear hcz18_7
    try clear hcz18_8
    try clear hcz5_0
    try clear hcz5_1
    try clear hcz5_2
    try clear hcz5_3
    try clear hcz5_4
    try clear hcz5_5
    try clear hcz5_6
    try clear hcz5_7
    try clear hcz5_8
    try clear hcz7_0
    try clear hcz7_1
    try clear hcz7_2
    try clear hcz7_3
    try clear hcz7_4
    try clear hcz7_5
    try clear hcz7_6
    try clear hcz7_7
    try clear hcz7_8
    try clear hcz9_0
    try clear hcz9_1
    try clear hcz9_2
    try clear hcz9_3
    try clear hcz9_4
    try clear hcz9_5
    try clear hcz9_6
    try clear hcz9_7
    try clear hcz9_8
    try clear hfz11_0
    try clear hfz11_1
    try clear hfz11_2
    try clear hfz11_3
    try clear hfz11_4
    try clear hfz11_5
    try clear hfz11_6
    try clear hfz11_7
    try clear hfz11_8
    try clear hfz13_0
    try clear hfz13_1
    try clear hfz13_2
    try clear hfz13_3
    try clear hfz13_4
    try clear hfz13_5
    try clear hfz13_6
    try clear hfz13_7
    try clear hfz13_8
    try clear hfz15_0
    try clear hfz15_1
    try clear hfz15_2
    try clear hfz15_3
    try clear hfz15_4
    try clear hfz15_5
    try clear hfz15_6
    try clear hfz15_7
    try clear hfz15_8
    try clear hfz17_0
    try clear hfz17_1
    try clear hfz17_2
    try clear hfz17_3
    try clear hfz17_4
    try clear hfz17_5
    try clear hfz17_6
    try clear hfz17_7
    try clear hfz17_8
    try clear hfz18_0
    try clear hfz18_1
    try clear hfz18_2
    try clear hfz18_3
    try clear hfz18_4
    try clear hfz18_5
    try clear hfz18_6
    try clear hfz18_7
    try clear hfz18_8
    try clear hfz5_0
    try clear hfz5_1
    try clear hfz5_2
    try clear hfz5_3
    try clear hfz5_4
    try clear hfz5_5
    try clear hfz5_6
    try clear hfz5_7
    try clear hfz5_8
    try clear hfz7_0
    try clear hfz7_1
    try clear hfz7_2
    try clear hfz7_3
    try clear hfz7_4
    try clear hfz7_5
    try clear hfz7_6
    try clear hfz7_7
    try clear hfz7_8
    try clear hfz9_0
    try clear hfz9_1
    try clear hfz9_2
    try clear hfz9_3
    try clear hfz9_4
    try clear hfz9_5
    try clear hfz9_6
    try clear hfz9_7
    try clear hfz9_8
    obtain ⟨kq, x40_1, rfl, HA, HJ1, BK174, HB⟩ := hcut
    cases kq with
    | zero => exact absurd HA.out (by simp [vespersref09_May.j0])
    | succ kj1 =>
      have H := HA.out
      clear HA
      simp only [vespersref09_May.j0] at H
      by_cases c19 : x40_1 = true
      · subst c19
        have H1 : (some false) = some r := by rw [if_pos rfl] at H; exact H
        clear H
        have H := H1
        clear H1
        obtain rfl := Option.some.inj H
        go_wp2
        go_ret
        exact ⟨by first | rfl | (simp [errW_none, errW_some] <;> rfl) | (simp [*, errW_none, errW_some] <;> rfl) | (simp only [IntWalk.i64_left]; rfl), by repeat (first | (with_reducible first | exact HB.out | apply below_alloc | apply pw_below_drewN | apply below_drew1 | refine below_set ?_ GE174.out) | exact HB.out)⟩
      · replace c19 := Bool.eq_false_iff.mpr c19
        subst c19
        have H1 : (if a0_3 = (-1) then (vespersref09_May.j1 kj1 false a0_0 a0_1 a0_2 a0_3 l0_4 l0_5 l0_6 l0_7 a0_8) else (if a0_3 < 0 then (vespersref09_May.j1 kj1 true a0_0 a0_1 a0_2 a0_3 l0_4 l0_5 l0_6 l0_7 a0_8) else (if a0_3 ≥ 158310720 then (vespersref09_May.j1 kj1 true a0_0 a0_1 a0_2 a0_3 l0_4 l0_5 l0_6 l0_7 a0_8) else (vespersref09_May.j1 kj1 (decide (a0_2 > 0)) a0_0 a0_1 a0_2 a0_3 l0_4 l0_5 l0_6 l0_7 a0_8)))) = some r := by rw [if_neg (show ¬ (false = true) by decide)] at H; exact H
        clear H
        have H := H1
        clear H1
        have HC20 := Aside0.mk H
        clear H
        go_upto_region 3 with (fail)
        go_cut [58] (fun v58 wc => ∃ (kq : Nat) (x58_19 : Bool), v58 = .bool x58_19 ∧ Aside0 (vespersref09_May.j1 kq x58_19 a0_0 a0_1 a0_2 a0_3 l0_4 l0_5 l0_6 l0_7 a0_8 = some r) ∧ Aside0 (kq ≤ kj1) ∧ Aside0 (wc.heap[gb174]? = some (.cells #[.int .i64 a0_0, .int .i64 a0_1, .int .i64 a0_2, .int .i64 a0_3, (.slice A0_4 l0_4.length c0_4), (.slice A0_5 l0_5.length c0_5), (.slice A0_6 l0_6.length c0_6), (.slice A0_7 l0_7.length c0_7), .int .i64 a0_8] 25 (0, 0))) ∧ Aside0 (Below w.heap.size w wc))
        case first =>
          have H := HC20.out
          clear HC20
          by_cases c21 : a0_3 = (-1)
          · rw [if_pos c21] at H
            have c21b0 : (a0_3 == (-1)) = true := beq_iff_eq.mpr c21
            have c21b1 : (a0_3 != (-1)) = false := bne_eq_false_iff_eq.mpr c21
            clear c21
            (first | rw [c21b0] | (simp only [i64_w, i32_w]; rw [c21b0]) | skip)
            have H' := Aside0.mk H
            clear H
            have hcz22_0 : wc.cell? ⟨gb174, 0, none⟩ = some (.int .i64 a0_0) := (blk_cell BK174.out 0).trans rfl
            have hcz22_1 : wc.cell? ⟨gb174, 1, none⟩ = some (.int .i64 a0_1) := (blk_cell BK174.out 1).trans rfl
            have hcz22_2 : wc.cell? ⟨gb174, 2, none⟩ = some (.int .i64 a0_2) := (blk_cell BK174.out 2).trans rfl
            have hcz22_3 : wc.cell? ⟨gb174, 3, none⟩ = some (.int .i64 a0_3) := (blk_cell BK174.out 3).trans rfl
            have hcz22_4 : wc.cell? ⟨gb174, 4, none⟩ = some (.slice A0_4 l0_4.length c0_4) := (blk_cell BK174.out 4).trans rfl
            have hcz22_5 : wc.cell? ⟨gb174, 5, none⟩ = some (.slice A0_5 l0_5.length c0_5) := (blk_cell BK174.out 5).trans rfl
            have hcz22_6 : wc.cell? ⟨gb174, 6, none⟩ = some (.slice A0_6 l0_6.length c0_6) := (blk_cell BK174.out 6).trans rfl
            have hcz22_7 : wc.cell? ⟨gb174, 7, none⟩ = some (.slice A0_7 l0_7.length c0_7) := (blk_cell BK174.out 7).trans rfl
            have hcz22_8 : wc.cell? ⟨gb174, 8, none⟩ = some (.int .i64 a0_8) := (blk_cell BK174.out 8).trans rfl
            have hfz22_0 := blk_frozen BK174.out 0
            have hfz22_1 := blk_frozen BK174.out 1
            have hfz22_2 := blk_frozen BK174.out 2
            have hfz22_3 := blk_frozen BK174.out 3
            have hfz22_4 := blk_frozen BK174.out 4
            have hfz22_5 := blk_frozen BK174.out 5
            have hfz22_6 := blk_frozen BK174.out 6
            have hfz22_7 := blk_frozen BK174.out 7
            have hfz22_8 := blk_frozen BK174.out 8
            go_wp2
            go_meet
            case rel => exact ⟨_, (false), (by first | rfl | (simp; done) | (simp [*]; done)), H', ⟨by have := HJ1.out; first | omega | exact Nat.le_refl _⟩, ⟨by (with_reducible repeat (first | refine blk_drewN ?_ _ | refine blk_drew ?_ | refine blk_alloc ?_ _)); exact BK174.out⟩, ⟨by repeat (first | (with_reducible first | exact HB.out | apply below_alloc | apply pw_below_drewN | apply below_drew1 | refine below_set ?_ GE174.out) | exact HB.out)⟩⟩
          · rw [if_neg c21] at H
            have c21b0 : (a0_3 == (-1)) = false := beq_eq_false_iff_ne.mpr c21
            have c21b1 : (a0_3 != (-1)) = true := bne_iff_ne.mpr c21
            (first | rw [c21b0] | (simp only [i64_w, i32_w]; rw [c21b0]) | skip)
            by_cases c23 : a0_3 < 0
            · rw [if_pos c23] at H
              have c23b0 : decide (a0_3 < 0) = true := decide_eq_true c23
              clear c23
              have H' := Aside0.mk H
              clear H
              have hcz24_0 : wc.cell? ⟨gb174, 0, none⟩ = some (.int .i64 a0_0) := (blk_cell BK174.out 0).trans rfl
              have hcz24_1 : wc.cell? ⟨gb174, 1, none⟩ = some (.int .i64 a0_1) := (blk_cell BK174.out 1).trans rfl
              have hcz24_2 : wc.cell? ⟨gb174, 2, none⟩ = some (.int .i64 a0_2) := (blk_cell BK174.out 2).trans rfl
              have hcz24_3 : wc.cell? ⟨gb174, 3, none⟩ = some (.int .i64 a0_3) := (blk_cell BK174.out 3).trans rfl
              have hcz24_4 : wc.cell? ⟨gb174, 4, none⟩ = some (.slice A0_4 l0_4.length c0_4) := (blk_cell BK174.out 4).trans rfl
              have hcz24_5 : wc.cell? ⟨gb174, 5, none⟩ = some (.slice A0_5 l0_5.length c0_5) := (blk_cell BK174.out 5).trans rfl
              have hcz24_6 : wc.cell? ⟨gb174, 6, none⟩ = some (.slice A0_6 l0_6.length c0_6) := (blk_cell BK174.out 6).trans rfl
              have hcz24_7 : wc.cell? ⟨gb174, 7, none⟩ = some (.slice A0_7 l0_7.length c0_7) := (blk_cell BK174.out 7).trans rfl
              have hcz24_8 : wc.cell? ⟨gb174, 8, none⟩ = some (.int .i64 a0_8) := (blk_cell BK174.out 8).trans rfl
              have hfz24_0 := blk_frozen BK174.out 0
              have hfz24_1 := blk_frozen BK174.out 1
              have hfz24_2 := blk_frozen BK174.out 2
              have hfz24_3 := blk_frozen BK174.out 3
              have hfz24_4 := blk_frozen BK174.out 4
              have hfz24_5 := blk_frozen BK174.out 5
              have hfz24_6 := blk_frozen BK174.out 6
              have hfz24_7 := blk_frozen BK174.out 7
              have hfz24_8 := blk_frozen BK174.out 8
              go_wp2
              go_meet
              case rel => exact ⟨_, (true), (by first | rfl | (simp; done) | (simp [*]; done)), H', ⟨by have := HJ1.out; first | omega | exact Nat.le_refl _⟩, ⟨by (with_reducible repeat (first | refine blk_drewN ?_ _ | refine blk_drew ?_ | refine blk_alloc ?_ _)); exact BK174.out⟩, ⟨by repeat (first | (with_reducible first | exact HB.out | apply below_alloc | apply pw_below_drewN | apply below_drew1 | refine below_set ?_ GE174.out) | exact HB.out)⟩⟩
            · rw [if_neg c23] at H
              have c23b0 : decide (a0_3 < 0) = false := decide_eq_false c23
              clear c23
              by_cases c25 : a0_3 ≥ 158310720
              · rw [if_pos c25] at H
                have c25b0 : decide (158310720 ≤ a0_3) = true := decide_eq_true c25
                clear c25
                have H' := Aside0.mk H
                clear H
                have hcz26_0 : wc.cell? ⟨gb174, 0, none⟩ = some (.int .i64 a0_0) := (blk_cell BK174.out 0).trans rfl
                have hcz26_1 : wc.cell? ⟨gb174, 1, none⟩ = some (.int .i64 a0_1) := (blk_cell BK174.out 1).trans rfl
                have hcz26_2 : wc.cell? ⟨gb174, 2, none⟩ = some (.int .i64 a0_2) := (blk_cell BK174.out 2).trans rfl
                have hcz26_3 : wc.cell? ⟨gb174, 3, none⟩ = some (.int .i64 a0_3) := (blk_cell BK174.out 3).trans rfl
                have hcz26_4 : wc.cell? ⟨gb174, 4, none⟩ = some (.slice A0_4 l0_4.length c0_4) := (blk_cell BK174.out 4).trans rfl
                have hcz26_5 : wc.cell? ⟨gb174, 5, none⟩ = some (.slice A0_5 l0_5.length c0_5) := (blk_cell BK174.out 5).trans rfl
                have hcz26_6 : wc.cell? ⟨gb174, 6, none⟩ = some (.slice A0_6 l0_6.length c0_6) := (blk_cell BK174.out 6).trans rfl
                have hcz26_7 : wc.cell? ⟨gb174, 7, none⟩ = some (.slice A0_7 l0_7.length c0_7) := (blk_cell BK174.out 7).trans rfl
                have hcz26_8 : wc.cell? ⟨gb174, 8, none⟩ = some (.int .i64 a0_8) := (blk_cell BK174.out 8).trans rfl
                have hfz26_0 := blk_frozen BK174.out 0
                have hfz26_1 := blk_frozen BK174.out 1
                have hfz26_2 := blk_frozen BK174.out 2
                have hfz26_3 := blk_frozen BK174.out 3
                have hfz26_4 := blk_frozen BK174.out 4
                have hfz26_5 := blk_frozen BK174.out 5
                have hfz26_6 := blk_frozen BK174.out 6
                have hfz26_7 := blk_frozen BK174.out 7
                have hfz26_8 := blk_frozen BK174.out 8
                go_wp2
                go_meet
                case rel => exact ⟨_, (true), (by first | rfl | (simp; done) | (simp [*]; done)), H', ⟨by have := HJ1.out; first | omega | exact Nat.le_refl _⟩, ⟨by (with_reducible repeat (first | refine blk_drewN ?_ _ | refine blk_drew ?_ | refine blk_alloc ?_ _)); exact BK174.out⟩, ⟨by repeat (first | (with_reducible first | exact HB.out | apply below_alloc | apply pw_below_drewN | apply below_drew1 | refine below_set ?_ GE174.out) | exact HB.out)⟩⟩
              · rw [if_neg c25] at H
                have c25b0 : decide (158310720 ≤ a0_3) = false := decide_eq_false c25
                clear c25
                have H' := Aside0.mk H
                clear H
                have hcz27_0 : wc.cell? ⟨gb174, 0, none⟩ = some (.int .i64 a0_0) := (blk_cell BK174.out 0).trans rfl
                have hcz27_1 : wc.cell? ⟨gb174, 1, none⟩ = some (.int .i64 a0_1) := (blk_cell BK174.out 1).trans rfl
                have hcz27_2 : wc.cell? ⟨gb174, 2, none⟩ = some (.int .i64 a0_2) := (blk_cell BK174.out 2).trans rfl
                have hcz27_3 : wc.cell? ⟨gb174, 3, none⟩ = some (.int .i64 a0_3) := (blk_cell BK174.out 3).trans rfl
                have hcz27_4 : wc.cell? ⟨gb174, 4, none⟩ = some (.slice A0_4 l0_4.length c0_4) := (blk_cell BK174.out 4).trans rfl
                have hcz27_5 : wc.cell? ⟨gb174, 5, none⟩ = some (.slice A0_5 l0_5.length c0_5) := (blk_cell BK174.out 5).trans rfl
                have hcz27_6 : wc.cell? ⟨gb174, 6, none⟩ = some (.slice A0_6 l0_6.length c0_6) := (blk_cell BK174.out 6).trans rfl
                have hcz27_7 : wc.cell? ⟨gb174, 7, none⟩ = some (.slice A0_7 l0_7.length c0_7) := (blk_cell BK174.out 7).trans rfl
                have hcz27_8 : wc.cell? ⟨gb174, 8, none⟩ = some (.int .i64 a0_8) := (blk_cell BK174.out 8).trans rfl
                have hfz27_0 := blk_frozen BK174.out 0
                have hfz27_1 := blk_frozen BK174.out 1
                have hfz27_2 := blk_frozen BK174.out 2
                have hfz27_3 := blk_frozen BK174.out 3
                have hfz27_4 := blk_frozen BK174.out 4
                have hfz27_5 := blk_frozen BK174.out 5
                have hfz27_6 := blk_frozen BK174.out 6
                have hfz27_7 := blk_frozen BK174.out 7
                have hfz27_8 := blk_frozen BK174.out 8
                go_wp2
                go_meet
                case rel => exact ⟨_, (decide (a0_2 > 0)), (by first | rfl | (simp; done) | (simp [*]; done)), H', ⟨by have := HJ1.out; first | omega | exact Nat.le_refl _⟩, ⟨by (with_reducible repeat (first | refine blk_drewN ?_ _ | refine blk_drew ?_ | refine blk_alloc ?_ _)); exact BK174.out⟩, ⟨by repeat (first | (with_reducible first | exact HB.out | apply below_alloc | apply pw_below_drewN | apply below_drew1 | refine below_set ?_ GE174.out) | exact HB.out)⟩⟩
        case rest =>
          clear HC20
          try clear c1
          try clear c2
          try clear p2
          try clear c4
          try clear c4b0
          try clear c6
          try clear c6b0
          try clear c7
          try clear c8
          try clear c8b0
          try clear c10
          try clear c10b0
          try clear c12
          try clear c12b0
          try clear c14
          try clear c14b0
          try clear c16
          try clear c16b0
          try clear c19
          try clear c21
          try clear c21b0
          try clear c21b1
          try clear c23
          try clear c23b0
          try clear c25
          try clear c25b0
          try clear hcz11_0
          try clear hcz11_1
          try clear hcz11_2
          try clear hcz11_3
          try clear hcz11_4
          try clear hcz11_5
          try clear hcz11_6
          try clear hcz11_7
          try clear hcz11_8
          try clear hcz13_0
          try clear hcz13_1
          try clear hcz13_2
          try clear hcz13_3
          try clear hcz13_4
          try clear hcz13_5
          try clear hcz13_6
          try clear hcz13_7
          try clear hcz13_8
          try clear hcz15_0
          try clear hcz15_1
          try clear hcz15_2
          try clear hcz15_3
          try clear hcz15_4
          try clear hcz15_5
          try clear hcz15_6
          try clear hcz15_7
          try clear hcz15_8
          try clear hcz17_0
          try clear hcz17_1
          try clear hcz17_2
          try clear hcz17_3
          try clear hcz17_4
          try clear hcz17_5
          try clear hcz17_6
          try clear hcz17_7
          try clear hcz17_8
          try clear hcz18_0
          try clear hcz18_1
          try clear hcz18_2
          try clear hcz18_3
          try clear hcz18_4
          try clear hcz18_5
          try clear hcz18_6
          try clear hcz18_7
          try clear hcz18_8
          try clear hcz22_0
          try clear hcz22_1
          try clear hcz22_2
          try clear hcz22_3
          try clear hcz22_4
          try clear hcz22_5
          try clear hcz22_6
          try clear hcz22_7
          try clear hcz22_8
          try clear hcz24_0
          try clear hcz24_1
          try clear hcz24_2
          try clear hcz24_3
          try clear hcz24_4
          try clear hcz24_5
          try clear hcz24_6
          try clear hcz24_7
          try clear hcz24_8
          try clear hcz26_0
          try clear hcz26_1
          try clear hcz26_2
          try clear hcz26_3
          try clear hcz26_4
          try clear hcz26_5
          try clear hcz26_6
          try clear hcz26_7
          try clear hcz26_8
          try clear hcz27_0
          try clear hcz27_1
          try clear hcz27_2
          try clear hcz27_3
          try clear hcz27_4
          try clear hcz27_5
          try clear hcz27_6
          try clear hcz27_7
          try clear hcz27_8
          try clear hcz5_0
          try clear hcz5_1
          try clear hcz5_2
          try clear hcz5_3
          try clear hcz5_4
          try clear hcz5_5
          try clear hcz5_6
          try clear hcz5_7
          try clear hcz5_8
          try clear hcz7_0
          try clear hcz7_1
          try clear hcz7_2
          try clear hcz7_3
          try clear hcz7_4
          try clear hcz7_5
          try clear hcz7_6
          try clear hcz7_7
          try clear hcz7_8
          try clear hcz9_0
          try clear hcz9_1
          try clear hcz9_2
          try clear hcz9_3
          try clear hcz9_4
          try clear hcz9_5
          try clear hcz9_6
          try clear hcz9_7
          try clear hcz9_8
          try clear hfz11_0
          try clear hfz11_1
          try clear hfz11_2
          try clear hfz11_3
          try clear hfz11_4
          try clear hfz11_5
          try clear hfz11_6
          try clear hfz11_7
          try clear hfz11_8
          try clear hfz13_0
          try clear hfz13_1
          try clear hfz13_2
          try clear hfz13_3
          try clear hfz13_4
          try clear hfz13_5
          try clear hfz13_6
          try clear hfz13_7
          try clear hfz13_8
          try clear hfz15_0
          try clear hfz15_1
          try clear hfz15_2
          try clear hfz15_3
          try clear hfz15_4
          try clear hfz15_5
          try clear hfz15_6
          try clear hfz15_7
          try clear hfz15_8
          try clear hfz17_0
          try clear hfz17_1
          try clear hfz17_2
          try clear hfz17_3
          try clear hfz17_4
          try clear hfz17_5
          try clear hfz17_6
          try clear hfz17_7
          try clear hfz17_8
          try clear hfz18_0
          try clear hfz18_1
          try clear hfz18_2
          try clear hfz18_3
          try clear hfz18_4
          try clear hfz18_5
          try clear hfz18_6
          try clear hfz18_7
          try clear hfz18_8
          try clear hfz22_0
          try clear hfz22_1
          try clear hfz22_2
          try clear hfz22_3
          try clear hfz22_4
          try clear hfz22_5
          try clear hfz22_6
          try clear hfz22_7
          try clear hfz22_8
          try clear hfz24_0
          try clear hfz24_1
          try clear hfz24_2
          try clear hfz24_3
          try clear hfz24_4
          try clear hfz24_5
          try clear hfz24_6
          try clear hfz24_7
          try clear hfz24_8
          try clear hfz26_0
          try clear hfz26_1
          try clear hfz26_2
          try clear hfz26_3
          try clear hfz26_4
          try clear hfz26_5
          try clear hfz26_6
          try clear hfz26_7
          try clear hfz26_8
          try clear hfz27_0
          try clear hfz27_1
          try clear hfz27_2
          try clear hfz27_3
          try clear hfz27_4
          try clear hfz27_5
          try clear hfz27_6
          try clear hfz27_7
          try clear hfz27_8
          try clear hfz5_0
          try clear hfz5_1
          try clear hfz5_2
          try clear hfz5_3
          try clear hfz5_4
          try clear hfz5_5
          try clear hfz5_6
          try clear hfz5_7
          try clear hfz5_8
          try clear hfz7_0
          try clear hfz7_1
          try clear hfz7_2
          try clear hfz7_3
          try clear hfz7_4
          try clear hfz7_5
          try clear hfz7_6
          try clear hfz7_7
          try clear hfz7_8
          try clear hfz9_0
          try clear hfz9_1
          try clear hfz9_2
          try clear hfz9_3
          try clear hfz9_4
          try clear hfz9_5
          try clear hfz9_6
          try clear hfz9_7
          try clear hfz9_8
          try clear p2
          obtain ⟨kq, x58_19, rfl, HA, HJ19, BK174, HB⟩ := hcut
          cases kq with
          | zero => exact absurd HA.out (by simp [vespersref09_May.j1])
          | succ kj19 =>
            have H := HA.out
            clear HA
            simp only [vespersref09_May.j1] at H
            by_cases c28 : x58_19 = true
            · subst c28
              have H1 : (some false) = some r := by rw [if_pos rfl] at H; exact H
              clear H
              have H := H1
              clear H1
              obtain rfl := Option.some.inj H
              go_wp2
              go_ret
              exact ⟨by first | rfl | (simp [errW_none, errW_some] <;> rfl) | (simp [*, errW_none, errW_some] <;> rfl) | (simp only [IntWalk.i64_left]; rfl), by repeat (first | (with_reducible first | exact HB.out | apply below_alloc | apply pw_below_drewN | apply below_drew1 | refine below_set ?_ GE174.out) | exact HB.out)⟩
            · replace c28 := Bool.eq_false_iff.mpr c28
              subst c28
              have H1 : ((vespersref09_row.f kj19 l0_4 12 false).bind fun t175 => (if t175 = true then ((vespersref09_row.f kj19 l0_5 31 true).bind fun t176 => (if t176 = true then ((vespersref09_row.f kj19 l0_7 366 true).bind fun t177 => (if t177 = true then ((vespersref09_days.f kj19 a0_0 a0_1 a0_2 a0_3 l0_4 l0_5 l0_6 l0_7 a0_8).bind fun t178 => (vespersref09_May.j2 kj19 (!t178) a0_0 a0_1 a0_2 a0_3 l0_4 l0_5 l0_6 l0_7 a0_8)) else (vespersref09_May.j2 kj19 true a0_0 a0_1 a0_2 a0_3 l0_4 l0_5 l0_6 l0_7 a0_8))) else (vespersref09_May.j2 kj19 true a0_0 a0_1 a0_2 a0_3 l0_4 l0_5 l0_6 l0_7 a0_8))) else (vespersref09_May.j2 kj19 true a0_0 a0_1 a0_2 a0_3 l0_4 l0_5 l0_6 l0_7 a0_8))) = some r := by rw [if_neg (show ¬ (false = true) by decide)] at H; exact H
              clear H
              have H := H1
              clear H1
              have HC29 := Aside0.mk H
              clear H
              go_upto_region 5 with (fail)
              go_cut [79] (fun v79 wc => ∃ (kq : Nat) (x79_28 : Bool), v79 = .bool x79_28 ∧ Aside0 (vespersref09_May.j2 kq x79_28 a0_0 a0_1 a0_2 a0_3 l0_4 l0_5 l0_6 l0_7 a0_8 = some r) ∧ Aside0 (kq ≤ kj19) ∧ Aside0 (wc.heap[gb174]? = some (.cells #[.int .i64 a0_0, .int .i64 a0_1, .int .i64 a0_2, .int .i64 a0_3, (.slice A0_4 l0_4.length c0_4), (.slice A0_5 l0_5.length c0_5), (.slice A0_6 l0_6.length c0_6), (.slice A0_7 l0_7.length c0_7), .int .i64 a0_8] 25 (0, 0))) ∧ Aside0 (Below w.heap.size w wc))
              case first =>
                have H := HC29.out
                clear HC29
                replace H := Option.bind_eq_some_iff.mp H
                obtain ⟨t175, A300, H⟩ := H
                replace H : (if t175 = true then ((vespersref09_row.f kj19 l0_5 31 true).bind fun t176 => (if t176 = true then ((vespersref09_row.f kj19 l0_7 366 true).bind fun t177 => (if t177 = true then ((vespersref09_days.f kj19 a0_0 a0_1 a0_2 a0_3 l0_4 l0_5 l0_6 l0_7 a0_8).bind fun t178 => (vespersref09_May.j2 kj19 (!t178) a0_0 a0_1 a0_2 a0_3 l0_4 l0_5 l0_6 l0_7 a0_8)) else (vespersref09_May.j2 kj19 true a0_0 a0_1 a0_2 a0_3 l0_4 l0_5 l0_6 l0_7 a0_8))) else (vespersref09_May.j2 kj19 true a0_0 a0_1 a0_2 a0_3 l0_4 l0_5 l0_6 l0_7 a0_8))) else (vespersref09_May.j2 kj19 true a0_0 a0_1 a0_2 a0_3 l0_4 l0_5 l0_6 l0_7 a0_8)) = some r := H
                have A30 := Aside0.mk A300
                clear A300
                by_cases c31 : t175 = true
                · subst c31
                  have H1 : ((vespersref09_row.f kj19 l0_5 31 true).bind fun t176 => (if t176 = true then ((vespersref09_row.f kj19 l0_7 366 true).bind fun t177 => (if t177 = true then ((vespersref09_days.f kj19 a0_0 a0_1 a0_2 a0_3 l0_4 l0_5 l0_6 l0_7 a0_8).bind fun t178 => (vespersref09_May.j2 kj19 (!t178) a0_0 a0_1 a0_2 a0_3 l0_4 l0_5 l0_6 l0_7 a0_8)) else (vespersref09_May.j2 kj19 true a0_0 a0_1 a0_2 a0_3 l0_4 l0_5 l0_6 l0_7 a0_8))) else (vespersref09_May.j2 kj19 true a0_0 a0_1 a0_2 a0_3 l0_4 l0_5 l0_6 l0_7 a0_8))) = some r := by rw [if_pos rfl] at H; exact H
                  clear H
                  have H := H1
                  clear H1
                  replace H := Option.bind_eq_some_iff.mp H
                  obtain ⟨t176, A320, H⟩ := H
                  replace H : (if t176 = true then ((vespersref09_row.f kj19 l0_7 366 true).bind fun t177 => (if t177 = true then ((vespersref09_days.f kj19 a0_0 a0_1 a0_2 a0_3 l0_4 l0_5 l0_6 l0_7 a0_8).bind fun t178 => (vespersref09_May.j2 kj19 (!t178) a0_0 a0_1 a0_2 a0_3 l0_4 l0_5 l0_6 l0_7 a0_8)) else (vespersref09_May.j2 kj19 true a0_0 a0_1 a0_2 a0_3 l0_4 l0_5 l0_6 l0_7 a0_8))) else (vespersref09_May.j2 kj19 true a0_0 a0_1 a0_2 a0_3 l0_4 l0_5 l0_6 l0_7 a0_8)) = some r := H
                  have A32 := Aside0.mk A320
                  clear A320
                  by_cases c33 : t176 = true
                  · subst c33
                    have H1 : ((vespersref09_row.f kj19 l0_7 366 true).bind fun t177 => (if t177 = true then ((vespersref09_days.f kj19 a0_0 a0_1 a0_2 a0_3 l0_4 l0_5 l0_6 l0_7 a0_8).bind fun t178 => (vespersref09_May.j2 kj19 (!t178) a0_0 a0_1 a0_2 a0_3 l0_4 l0_5 l0_6 l0_7 a0_8)) else (vespersref09_May.j2 kj19 true a0_0 a0_1 a0_2 a0_3 l0_4 l0_5 l0_6 l0_7 a0_8))) = some r := by rw [if_pos rfl] at H; exact H
                    clear H
                    have H := H1
                    clear H1
                    replace H := Option.bind_eq_some_iff.mp H
                    obtain ⟨t177, A340, H⟩ := H
                    replace H : (if t177 = true then ((vespersref09_days.f kj19 a0_0 a0_1 a0_2 a0_3 l0_4 l0_5 l0_6 l0_7 a0_8).bind fun t178 => (vespersref09_May.j2 kj19 (!t178) a0_0 a0_1 a0_2 a0_3 l0_4 l0_5 l0_6 l0_7 a0_8)) else (vespersref09_May.j2 kj19 true a0_0 a0_1 a0_2 a0_3 l0_4 l0_5 l0_6 l0_7 a0_8)) = some r := H
                    have A34 := Aside0.mk A340
                    clear A340
                    by_cases c35 : t177 = true
                    · subst c35
                      have H1 : ((vespersref09_days.f kj19 a0_0 a0_1 a0_2 a0_3 l0_4 l0_5 l0_6 l0_7 a0_8).bind fun t178 => (vespersref09_May.j2 kj19 (!t178) a0_0 a0_1 a0_2 a0_3 l0_4 l0_5 l0_6 l0_7 a0_8)) = some r := by rw [if_pos rfl] at H; exact H
                      clear H
                      have H := H1
                      clear H1
                      replace H := Option.bind_eq_some_iff.mp H
                      obtain ⟨t178, A360, H⟩ := H
                      replace H : (vespersref09_May.j2 kj19 (!t178) a0_0 a0_1 a0_2 a0_3 l0_4 l0_5 l0_6 l0_7 a0_8) = some r := H
                      have A36 := Aside0.mk A360
                      clear A360
                      have H' := Aside0.mk H
                      clear H
                      have hcz37_0 : wc.cell? ⟨gb174, 0, none⟩ = some (.int .i64 a0_0) := (blk_cell BK174.out 0).trans rfl
                      have hcz37_1 : wc.cell? ⟨gb174, 1, none⟩ = some (.int .i64 a0_1) := (blk_cell BK174.out 1).trans rfl
                      have hcz37_2 : wc.cell? ⟨gb174, 2, none⟩ = some (.int .i64 a0_2) := (blk_cell BK174.out 2).trans rfl
                      have hcz37_3 : wc.cell? ⟨gb174, 3, none⟩ = some (.int .i64 a0_3) := (blk_cell BK174.out 3).trans rfl
                      have hcz37_4 : wc.cell? ⟨gb174, 4, none⟩ = some (.slice A0_4 l0_4.length c0_4) := (blk_cell BK174.out 4).trans rfl
                      have hcz37_5 : wc.cell? ⟨gb174, 5, none⟩ = some (.slice A0_5 l0_5.length c0_5) := (blk_cell BK174.out 5).trans rfl
                      have hcz37_6 : wc.cell? ⟨gb174, 6, none⟩ = some (.slice A0_6 l0_6.length c0_6) := (blk_cell BK174.out 6).trans rfl
                      have hcz37_7 : wc.cell? ⟨gb174, 7, none⟩ = some (.slice A0_7 l0_7.length c0_7) := (blk_cell BK174.out 7).trans rfl
                      have hcz37_8 : wc.cell? ⟨gb174, 8, none⟩ = some (.int .i64 a0_8) := (blk_cell BK174.out 8).trans rfl
                      have hfz37_0 := blk_frozen BK174.out 0
                      have hfz37_1 := blk_frozen BK174.out 1
                      have hfz37_2 := blk_frozen BK174.out 2
                      have hfz37_3 := blk_frozen BK174.out 3
                      have hfz37_4 := blk_frozen BK174.out 4
                      have hfz37_5 := blk_frozen BK174.out 5
                      have hfz37_6 := blk_frozen BK174.out 6
                      have hfz37_7 := blk_frozen BK174.out 7
                      have hfz37_8 := blk_frozen BK174.out 8
                      go_wp2_with (first | ((with_reducible refine gate_callee (f := 12) rfl ?_); refine goesL_ (some 61) rfl rfl Try.func12 (by kernel_rfl) rfl #[.slice A0_4 l0_4.length c0_4, .int .i64 12, .bool false] rfl (by (try simp only [List.map_toArray, List.map_cons, List.map_nil]); first | done | rfl | (simp only [List.length_drop, List.length_take]; rfl)) ?_; (with_reducible refine (vespersref09_row.calls kj19 _ _ l0_4 12 false true _ ?side1 ?side2 A30.out).mono ?_); (case side1 => repeat (first | exact (Kd.C_below HR0_4.out HB.out) | (with_reducible refine Kd.C_alloc ?_ _) | (with_reducible refine Kd.C_drewN ?_ _) | (with_reducible refine Kd.C_drew ?_))); (case side2 => exact HC0_4.out); rintro e w' ⟨rfl, ⟨nd, rfl⟩⟩; refine ⟨_, rfl, ?_⟩) | (go_at_call 12; (with_reducible refine (vespersref09_row.calls kj19 _ _ l0_5 31 true true _ ?side1 ?side2 A32.out).mono ?_); (case side1 => repeat (first | exact (Kd.C_below HR0_5.out (by repeat (first | (with_reducible first | exact HB.out | apply below_alloc | apply pw_below_drewN | apply below_drew1 | refine below_set ?_ GE174.out) | exact HB.out))) | (with_reducible refine Kd.C_alloc ?_ _) | (with_reducible refine Kd.C_drewN ?_ _) | (with_reducible refine Kd.C_drew ?_))); (case side2 => exact HC0_5.out); rintro e w' ⟨rfl, ⟨nd, rfl⟩⟩) | (go_at_call 12; (with_reducible refine (vespersref09_row.calls kj19 _ _ l0_7 366 true true _ ?side1 ?side2 A34.out).mono ?_); (case side1 => repeat (first | exact (Kd.C_below HR0_7.out (by repeat (first | (with_reducible first | exact HB.out | apply below_alloc | apply pw_below_drewN | apply below_drew1 | refine below_set ?_ GE174.out) | exact HB.out))) | (with_reducible refine Kd.C_alloc ?_ _) | (with_reducible refine Kd.C_drewN ?_ _) | (with_reducible refine Kd.C_drew ?_))); (case side2 => exact HC0_7.out); rintro e w' ⟨rfl, ⟨nd, rfl⟩⟩) | (go_at_call 13; (with_reducible refine (vespersref09_days.calls kj19 a0_0 a0_1 a0_2 a0_3 _ _ l0_4 _ _ l0_5 _ _ l0_6 _ _ l0_7 a0_8 t178 _ ?side1 ?side2 ?side3 ?side4 ?side5 ?side6 ?side7 ?side8 A36.out).mono ?_); (case side1 => repeat (first | exact (Kd.C_below HR0_4.out (by repeat (first | (with_reducible first | exact HB.out | apply below_alloc | apply pw_below_drewN | apply below_drew1 | refine below_set ?_ GE174.out) | exact HB.out))) | (with_reducible refine Kd.C_alloc ?_ _) | (with_reducible refine Kd.C_drewN ?_ _) | (with_reducible refine Kd.C_drew ?_))); (case side2 => exact HC0_4.out); (case side3 => repeat (first | exact (Kd.C_below HR0_5.out (by repeat (first | (with_reducible first | exact HB.out | apply below_alloc | apply pw_below_drewN | apply below_drew1 | refine below_set ?_ GE174.out) | exact HB.out))) | (with_reducible refine Kd.C_alloc ?_ _) | (with_reducible refine Kd.C_drewN ?_ _) | (with_reducible refine Kd.C_drew ?_))); (case side4 => exact HC0_5.out); (case side5 => repeat (first | exact (Kd.C_below HR0_6.out (by repeat (first | (with_reducible first | exact HB.out | apply below_alloc | apply pw_below_drewN | apply below_drew1 | refine below_set ?_ GE174.out) | exact HB.out))) | (with_reducible refine Kd.C_alloc ?_ _) | (with_reducible refine Kd.C_drewN ?_ _) | (with_reducible refine Kd.C_drew ?_))); (case side6 => exact HC0_6.out); (case side7 => repeat (first | exact (Kd.C_below HR0_7.out (by repeat (first | (with_reducible first | exact HB.out | apply below_alloc | apply pw_below_drewN | apply below_drew1 | refine below_set ?_ GE174.out) | exact HB.out))) | (with_reducible refine Kd.C_alloc ?_ _) | (with_reducible refine Kd.C_drewN ?_ _) | (with_reducible refine Kd.C_drew ?_))); (case side8 => exact HC0_7.out); rintro e w38 ⟨rfl, hb⟩; have n0_ := Aside0.mk (blk_below (g := gb174) (o := .cells #[.int .i64 a0_0, .int .i64 a0_1, .int .i64 a0_2, .int .i64 a0_3, .slice A0_4 l0_4.length c0_4, .slice A0_5 l0_5.length c0_5, .slice A0_6 l0_6.length c0_6, .slice A0_7 l0_7.length c0_7, .int .i64 a0_8] 25 (0, 0)) (by (with_reducible repeat (first | refine blk_drewN ?_ _ | refine blk_drew ?_ | refine blk_alloc ?_ _)); exact BK174.out) hb); have n1_ := Aside0.mk (below_step (by repeat (first | (with_reducible first | exact HB.out | apply below_alloc | apply pw_below_drewN | apply below_drew1 | refine below_set ?_ GE174.out) | exact HB.out)) hb); clear BK174; clear HB; have BK174 := n0_; have HB := n1_; clear n0_ n1_; (try clear hb); (try clear hb2); (try clear hk); (try clear hi)))
                      go_meet
                      case rel => exact ⟨_, (!t178), (by first | rfl | (simp; done) | (simp [*]; done)), H', ⟨by have := HJ1.out; have := HJ19.out; first | omega | exact Nat.le_refl _⟩, ⟨by (with_reducible repeat (first | refine blk_drewN ?_ _ | refine blk_drew ?_ | refine blk_alloc ?_ _)); exact BK174.out⟩, ⟨by repeat (first | (with_reducible first | exact HB.out | apply below_alloc | apply pw_below_drewN | apply below_drew1 | refine below_set ?_ GE174.out) | exact HB.out)⟩⟩
                    · replace c35 := Bool.eq_false_iff.mpr c35
                      subst c35
                      have H1 : (vespersref09_May.j2 kj19 true a0_0 a0_1 a0_2 a0_3 l0_4 l0_5 l0_6 l0_7 a0_8) = some r := by rw [if_neg (show ¬ (false = true) by decide)] at H; exact H
                      clear H
                      have H := H1
                      clear H1
                      have H' := Aside0.mk H
                      clear H
                      have hcz39_0 : wc.cell? ⟨gb174, 0, none⟩ = some (.int .i64 a0_0) := (blk_cell BK174.out 0).trans rfl
                      have hcz39_1 : wc.cell? ⟨gb174, 1, none⟩ = some (.int .i64 a0_1) := (blk_cell BK174.out 1).trans rfl
                      have hcz39_2 : wc.cell? ⟨gb174, 2, none⟩ = some (.int .i64 a0_2) := (blk_cell BK174.out 2).trans rfl
                      have hcz39_3 : wc.cell? ⟨gb174, 3, none⟩ = some (.int .i64 a0_3) := (blk_cell BK174.out 3).trans rfl
                      have hcz39_4 : wc.cell? ⟨gb174, 4, none⟩ = some (.slice A0_4 l0_4.length c0_4) := (blk_cell BK174.out 4).trans rfl
                      have hcz39_5 : wc.cell? ⟨gb174, 5, none⟩ = some (.slice A0_5 l0_5.length c0_5) := (blk_cell BK174.out 5).trans rfl
                      have hcz39_6 : wc.cell? ⟨gb174, 6, none⟩ = some (.slice A0_6 l0_6.length c0_6) := (blk_cell BK174.out 6).trans rfl
                      have hcz39_7 : wc.cell? ⟨gb174, 7, none⟩ = some (.slice A0_7 l0_7.length c0_7) := (blk_cell BK174.out 7).trans rfl
                      have hcz39_8 : wc.cell? ⟨gb174, 8, none⟩ = some (.int .i64 a0_8) := (blk_cell BK174.out 8).trans rfl
                      have hfz39_0 := blk_frozen BK174.out 0
                      have hfz39_1 := blk_frozen BK174.out 1
                      have hfz39_2 := blk_frozen BK174.out 2
                      have hfz39_3 := blk_frozen BK174.out 3
                      have hfz39_4 := blk_frozen BK174.out 4
                      have hfz39_5 := blk_frozen BK174.out 5
                      have hfz39_6 := blk_frozen BK174.out 6
                      have hfz39_7 := blk_frozen BK174.out 7
                      have hfz39_8 := blk_frozen BK174.out 8
                      go_wp2_with (first | ((with_reducible refine gate_callee (f := 12) rfl ?_); refine goesL_ (some 61) rfl rfl Try.func12 (by kernel_rfl) rfl #[.slice A0_4 l0_4.length c0_4, .int .i64 12, .bool false] rfl (by (try simp only [List.map_toArray, List.map_cons, List.map_nil]); first | done | rfl | (simp only [List.length_drop, List.length_take]; rfl)) ?_; (with_reducible refine (vespersref09_row.calls kj19 _ _ l0_4 12 false true _ ?side1 ?side2 A30.out).mono ?_); (case side1 => repeat (first | exact (Kd.C_below HR0_4.out HB.out) | (with_reducible refine Kd.C_alloc ?_ _) | (with_reducible refine Kd.C_drewN ?_ _) | (with_reducible refine Kd.C_drew ?_))); (case side2 => exact HC0_4.out); rintro e w' ⟨rfl, ⟨nd, rfl⟩⟩; refine ⟨_, rfl, ?_⟩) | (go_at_call 12; (with_reducible refine (vespersref09_row.calls kj19 _ _ l0_5 31 true true _ ?side1 ?side2 A32.out).mono ?_); (case side1 => repeat (first | exact (Kd.C_below HR0_5.out (by repeat (first | (with_reducible first | exact HB.out | apply below_alloc | apply pw_below_drewN | apply below_drew1 | refine below_set ?_ GE174.out) | exact HB.out))) | (with_reducible refine Kd.C_alloc ?_ _) | (with_reducible refine Kd.C_drewN ?_ _) | (with_reducible refine Kd.C_drew ?_))); (case side2 => exact HC0_5.out); rintro e w' ⟨rfl, ⟨nd, rfl⟩⟩) | (go_at_call 12; (with_reducible refine (vespersref09_row.calls kj19 _ _ l0_7 366 true false _ ?side1 ?side2 A34.out).mono ?_); (case side1 => repeat (first | exact (Kd.C_below HR0_7.out (by repeat (first | (with_reducible first | exact HB.out | apply below_alloc | apply pw_below_drewN | apply below_drew1 | refine below_set ?_ GE174.out) | exact HB.out))) | (with_reducible refine Kd.C_alloc ?_ _) | (with_reducible refine Kd.C_drewN ?_ _) | (with_reducible refine Kd.C_drew ?_))); (case side2 => exact HC0_7.out); rintro e w' ⟨rfl, ⟨nd, rfl⟩⟩))
                      go_meet
                      case rel => exact ⟨_, (true), (by first | rfl | (simp; done) | (simp [*]; done)), H', ⟨by have := HJ1.out; have := HJ19.out; first | omega | exact Nat.le_refl _⟩, ⟨by (with_reducible repeat (first | refine blk_drewN ?_ _ | refine blk_drew ?_ | refine blk_alloc ?_ _)); exact BK174.out⟩, ⟨by repeat (first | (with_reducible first | exact HB.out | apply below_alloc | apply pw_below_drewN | apply below_drew1 | refine below_set ?_ GE174.out) | exact HB.out)⟩⟩
                  · replace c33 := Bool.eq_false_iff.mpr c33
                    subst c33
                    have H1 : (vespersref09_May.j2 kj19 true a0_0 a0_1 a0_2 a0_3 l0_4 l0_5 l0_6 l0_7 a0_8) = some r := by rw [if_neg (show ¬ (false = true) by decide)] at H; exact H
                    clear H
                    have H := H1
                    clear H1
                    have H' := Aside0.mk H
                    clear H
                    have hcz40_0 : wc.cell? ⟨gb174, 0, none⟩ = some (.int .i64 a0_0) := (blk_cell BK174.out 0).trans rfl
                    have hcz40_1 : wc.cell? ⟨gb174, 1, none⟩ = some (.int .i64 a0_1) := (blk_cell BK174.out 1).trans rfl
                    have hcz40_2 : wc.cell? ⟨gb174, 2, none⟩ = some (.int .i64 a0_2) := (blk_cell BK174.out 2).trans rfl
                    have hcz40_3 : wc.cell? ⟨gb174, 3, none⟩ = some (.int .i64 a0_3) := (blk_cell BK174.out 3).trans rfl
                    have hcz40_4 : wc.cell? ⟨gb174, 4, none⟩ = some (.slice A0_4 l0_4.length c0_4) := (blk_cell BK174.out 4).trans rfl
                    have hcz40_5 : wc.cell? ⟨gb174, 5, none⟩ = some (.slice A0_5 l0_5.length c0_5) := (blk_cell BK174.out 5).trans rfl
                    have hcz40_6 : wc.cell? ⟨gb174, 6, none⟩ = some (.slice A0_6 l0_6.length c0_6) := (blk_cell BK174.out 6).trans rfl
                    have hcz40_7 : wc.cell? ⟨gb174, 7, none⟩ = some (.slice A0_7 l0_7.length c0_7) := (blk_cell BK174.out 7).trans rfl
                    have hcz40_8 : wc.cell? ⟨gb174, 8, none⟩ = some (.int .i64 a0_8) := (blk_cell BK174.out 8).trans rfl
                    have hfz40_0 := blk_frozen BK174.out 0
                    have hfz40_1 := blk_frozen BK174.out 1
                    have hfz40_2 := blk_frozen BK174.out 2
                    have hfz40_3 := blk_frozen BK174.out 3
                    have hfz40_4 := blk_frozen BK174.out 4
                    have hfz40_5 := blk_frozen BK174.out 5
                    have hfz40_6 := blk_frozen BK174.out 6
                    have hfz40_7 := blk_frozen BK174.out 7
                    have hfz40_8 := blk_frozen BK174.out 8
                    go_wp2_with (first | ((with_reducible refine gate_callee (f := 12) rfl ?_); refine goesL_ (some 61) rfl rfl Try.func12 (by kernel_rfl) rfl #[.slice A0_4 l0_4.length c0_4, .int .i64 12, .bool false] rfl (by (try simp only [List.map_toArray, List.map_cons, List.map_nil]); first | done | rfl | (simp only [List.length_drop, List.length_take]; rfl)) ?_; (with_reducible refine (vespersref09_row.calls kj19 _ _ l0_4 12 false true _ ?side1 ?side2 A30.out).mono ?_); (case side1 => repeat (first | exact (Kd.C_below HR0_4.out HB.out) | (with_reducible refine Kd.C_alloc ?_ _) | (with_reducible refine Kd.C_drewN ?_ _) | (with_reducible refine Kd.C_drew ?_))); (case side2 => exact HC0_4.out); rintro e w' ⟨rfl, ⟨nd, rfl⟩⟩; refine ⟨_, rfl, ?_⟩) | (go_at_call 12; (with_reducible refine (vespersref09_row.calls kj19 _ _ l0_5 31 true false _ ?side1 ?side2 A32.out).mono ?_); (case side1 => repeat (first | exact (Kd.C_below HR0_5.out (by repeat (first | (with_reducible first | exact HB.out | apply below_alloc | apply pw_below_drewN | apply below_drew1 | refine below_set ?_ GE174.out) | exact HB.out))) | (with_reducible refine Kd.C_alloc ?_ _) | (with_reducible refine Kd.C_drewN ?_ _) | (with_reducible refine Kd.C_drew ?_))); (case side2 => exact HC0_5.out); rintro e w' ⟨rfl, ⟨nd, rfl⟩⟩))
                    go_meet
                    case rel => exact ⟨_, (true), (by first | rfl | (simp; done) | (simp [*]; done)), H', ⟨by have := HJ1.out; have := HJ19.out; first | omega | exact Nat.le_refl _⟩, ⟨by (with_reducible repeat (first | refine blk_drewN ?_ _ | refine blk_drew ?_ | refine blk_alloc ?_ _)); exact BK174.out⟩, ⟨by repeat (first | (with_reducible first | exact HB.out | apply below_alloc | apply pw_below_drewN | apply below_drew1 | refine below_set ?_ GE174.out) | exact HB.out)⟩⟩
                · replace c31 := Bool.eq_false_iff.mpr c31
                  subst c31
                  have H1 : (vespersref09_May.j2 kj19 true a0_0 a0_1 a0_2 a0_3 l0_4 l0_5 l0_6 l0_7 a0_8) = some r := by rw [if_neg (show ¬ (false = true) by decide)] at H; exact H
                  clear H
                  have H := H1
                  clear H1
                  have H' := Aside0.mk H
                  clear H
                  have hcz41_0 : wc.cell? ⟨gb174, 0, none⟩ = some (.int .i64 a0_0) := (blk_cell BK174.out 0).trans rfl
                  have hcz41_1 : wc.cell? ⟨gb174, 1, none⟩ = some (.int .i64 a0_1) := (blk_cell BK174.out 1).trans rfl
                  have hcz41_2 : wc.cell? ⟨gb174, 2, none⟩ = some (.int .i64 a0_2) := (blk_cell BK174.out 2).trans rfl
                  have hcz41_3 : wc.cell? ⟨gb174, 3, none⟩ = some (.int .i64 a0_3) := (blk_cell BK174.out 3).trans rfl
                  have hcz41_4 : wc.cell? ⟨gb174, 4, none⟩ = some (.slice A0_4 l0_4.length c0_4) := (blk_cell BK174.out 4).trans rfl
                  have hcz41_5 : wc.cell? ⟨gb174, 5, none⟩ = some (.slice A0_5 l0_5.length c0_5) := (blk_cell BK174.out 5).trans rfl
                  have hcz41_6 : wc.cell? ⟨gb174, 6, none⟩ = some (.slice A0_6 l0_6.length c0_6) := (blk_cell BK174.out 6).trans rfl
                  have hcz41_7 : wc.cell? ⟨gb174, 7, none⟩ = some (.slice A0_7 l0_7.length c0_7) := (blk_cell BK174.out 7).trans rfl
                  have hcz41_8 : wc.cell? ⟨gb174, 8, none⟩ = some (.int .i64 a0_8) := (blk_cell BK174.out 8).trans rfl
                  have hfz41_0 := blk_frozen BK174.out 0
                  have hfz41_1 := blk_frozen BK174.out 1
                  have hfz41_2 := blk_frozen BK174.out 2
                  have hfz41_3 := blk_frozen BK174.out 3
                  have hfz41_4 := blk_frozen BK174.out 4
                  have hfz41_5 := blk_frozen BK174.out 5
                  have hfz41_6 := blk_frozen BK174.out 6
                  have hfz41_7 := blk_frozen BK174.out 7
                  have hfz41_8 := blk_frozen BK174.out 8
                  go_wp2_with (first | ((with_reducible refine gate_callee (f := 12) rfl ?_); refine goesL_ (some 61) rfl rfl Try.func12 (by kernel_rfl) rfl #[.slice A0_4 l0_4.length c0_4, .int .i64 12, .bool false] rfl (by (try simp only [List.map_toArray, List.map_cons, List.map_nil]); first | done | rfl | (simp only [List.length_drop, List.length_take]; rfl)) ?_; (with_reducible refine (vespersref09_row.calls kj19 _ _ l0_4 12 false false _ ?side1 ?side2 A30.out).mono ?_); (case side1 => repeat (first | exact (Kd.C_below HR0_4.out HB.out) | (with_reducible refine Kd.C_alloc ?_ _) | (with_reducible refine Kd.C_drewN ?_ _) | (with_reducible refine Kd.C_drew ?_))); (case side2 => exact HC0_4.out); rintro e w' ⟨rfl, ⟨nd, rfl⟩⟩; refine ⟨_, rfl, ?_⟩))
                  go_meet
                  case rel => exact ⟨_, (true), (by first | rfl | (simp; done) | (simp [*]; done)), H', ⟨by have := HJ1.out; have := HJ19.out; first | omega | exact Nat.le_refl _⟩, ⟨by (with_reducible repeat (first | refine blk_drewN ?_ _ | refine blk_drew ?_ | refine blk_alloc ?_ _)); exact BK174.out⟩, ⟨by repeat (first | (with_reducible first | exact HB.out | apply below_alloc | apply pw_below_drewN | apply below_drew1 | refine below_set ?_ GE174.out) | exact HB.out)⟩⟩
              case rest =>
                clear HC29
                try clear c1
                try clear c2
                try clear p2
                try clear c3
                try clear c4
                try clear c4b0
                try clear c6
                try clear c6b0
                try clear c7
                try clear c8
                try clear c8b0
                try clear c10
                try clear c10b0
                try clear c12
                try clear c12b0
                try clear c14
                try clear c14b0
                try clear c16
                try clear c16b0
                try clear c19
                try clear c21
                try clear c21b0
                try clear c21b1
                try clear c23
                try clear c23b0
                try clear c25
                try clear c25b0
                try clear c28
                try clear c31
                try clear c33
                try clear c35
                try clear hcz11_0
                try clear hcz11_1
                try clear hcz11_2
                try clear hcz11_3
                try clear hcz11_4
                try clear hcz11_5
                try clear hcz11_6
                try clear hcz11_7
                try clear hcz11_8
                try clear hcz13_0
                try clear hcz13_1
                try clear hcz13_2
                try clear hcz13_3
                try clear hcz13_4
                try clear hcz13_5
                try clear hcz13_6
                try clear hcz13_7
                try clear hcz13_8
                try clear hcz15_0
                try clear hcz15_1
                try clear hcz15_2
                try clear hcz15_3
                try clear hcz15_4
                try clear hcz15_5
                try clear hcz15_6
                try clear hcz15_7
                try clear hcz15_8
                try clear hcz17_0
                try clear hcz17_1
                try clear hcz17_2
                try clear hcz17_3
                try clear hcz17_4
                try clear hcz17_5
                try clear hcz17_6
                try clear hcz17_7
                try clear hcz17_8
                try clear hcz18_0
                try clear hcz18_1
                try clear hcz18_2
                try clear hcz18_3
                try clear hcz18_4
                try clear hcz18_5
                try clear hcz18_6
                try clear hcz18_7
                try clear hcz18_8
                try clear hcz22_0
                try clear hcz22_1
                try clear hcz22_2
                try clear hcz22_3
                try clear hcz22_4
                try clear hcz22_5
                try clear hcz22_6
                try clear hcz22_7
                try clear hcz22_8
                try clear hcz24_0
                try clear hcz24_1
                try clear hcz24_2
                try clear hcz24_3
                try clear hcz24_4
                try clear hcz24_5
                try clear hcz24_6
                try clear hcz24_7
                try clear hcz24_8
                try clear hcz26_0
                try clear hcz26_1
                try clear hcz26_2
                try clear hcz26_3
                try clear hcz26_4
                try clear hcz26_5
                try clear hcz26_6
                try clear hcz26_7
                try clear hcz26_8
                try clear hcz27_0
                try clear hcz27_1
                try clear hcz27_2
                try clear hcz27_3
                try clear hcz27_4
                try clear hcz27_5
                try clear hcz27_6
                try clear hcz27_7
                try clear hcz27_8
                try clear hcz37_0
                try clear hcz37_1
                try clear hcz37_2
                try clear hcz37_3
                try clear hcz37_4
                try clear hcz37_5
                try clear hcz37_6
                try clear hcz37_7
                try clear hcz37_8
                try clear hcz39_0
                try clear hcz39_1
                try clear hcz39_2
                try clear hcz39_3
                try clear hcz39_4
                try clear hcz39_5
                try clear hcz39_6
                try clear hcz39_7
                try clear hcz39_8
                try clear hcz40_0
                try clear hcz40_1
                try clear hcz40_2
                try clear hcz40_3
                try clear hcz40_4
                try clear hcz40_5
                try clear hcz40_6
                try clear hcz40_7
                try clear hcz40_8
                try clear hcz41_0
                try clear hcz41_1
                try clear hcz41_2
                try clear hcz41_3
                try clear hcz41_4
                try clear hcz41_5
                try clear hcz41_6
                try clear hcz41_7
                try clear hcz41_8
                try clear hcz5_0
                try clear hcz5_1
                try clear hcz5_2
                try clear hcz5_3
                try clear hcz5_4
                try clear hcz5_5
                try clear hcz5_6
                try clear hcz5_7
                try clear hcz5_8
                try clear hcz7_0
                try clear hcz7_1
                try clear hcz7_2
                try clear hcz7_3
                try clear hcz7_4
                try clear hcz7_5
                try clear hcz7_6
                try clear hcz7_7
                try clear hcz7_8
                try clear hcz9_0
                try clear hcz9_1
                try clear hcz9_2
                try clear hcz9_3
                try clear hcz9_4
                try clear hcz9_5
                try clear hcz9_6
                try clear hcz9_7
                try clear hcz9_8
                try clear hfz11_0
                try clear hfz11_1
                try clear hfz11_2
                try clear hfz11_3
                try clear hfz11_4
                try clear hfz11_5
                try clear hfz11_6
                try clear hfz11_7
                try clear hfz11_8
                try clear hfz13_0
                try clear hfz13_1
                try clear hfz13_2
                try clear hfz13_3
                try clear hfz13_4
                try clear hfz13_5
                try clear hfz13_6
                try clear hfz13_7
                try clear hfz13_8
                try clear hfz15_0
                try clear hfz15_1
                try clear hfz15_2
                try clear hfz15_3
                try clear hfz15_4
                try clear hfz15_5
                try clear hfz15_6
                try clear hfz15_7
                try clear hfz15_8
                try clear hfz17_0
                try clear hfz17_1
                try clear hfz17_2
                try clear hfz17_3
                try clear hfz17_4
                try clear hfz17_5
                try clear hfz17_6
                try clear hfz17_7
                try clear hfz17_8
                try clear hfz18_0
                try clear hfz18_1
                try clear hfz18_2
                try clear hfz18_3
                try clear hfz18_4
                try clear hfz18_5
                try clear hfz18_6
                try clear hfz18_7
                try clear hfz18_8
                try clear hfz22_0
                try clear hfz22_1
                try clear hfz22_2
                try clear hfz22_3
                try clear hfz22_4
                try clear hfz22_5
                try clear hfz22_6
                try clear hfz22_7
                try clear hfz22_8
                try clear hfz24_0
                try clear hfz24_1
                try clear hfz24_2
                try clear hfz24_3
                try clear hfz24_4
                try clear hfz24_5
                try clear hfz24_6
                try clear hfz24_7
                try clear hfz24_8
                try clear hfz26_0
                try clear hfz26_1
                try clear hfz26_2
                try clear hfz26_3
                try clear hfz26_4
                try clear hfz26_5
                try clear hfz26_6
                try clear hfz26_7
                try clear hfz26_8
                try clear hfz27_0
                try clear hfz27_1
                try clear hfz27_2
                try clear hfz27_3
                try clear hfz27_4
                try clear hfz27_5
                try clear hfz27_6
                try clear hfz27_7
                try clear hfz27_8
                try clear hfz37_0
                try clear hfz37_1
                try clear hfz37_2
                try clear hfz37_3
                try clear hfz37_4
                try clear hfz37_5
                try clear hfz37_6
                try clear hfz37_7
                try clear hfz37_8
                try clear hfz39_0
                try clear hfz39_1
                try clear hfz39_2
                try clear hfz39_3
                try clear hfz39_4
                try clear hfz39_5
                try clear hfz39_6
                try clear hfz39_7
                try clear hfz39_8
                try clear hfz40_0
                try clear hfz40_1
                try clear hfz40_2
                try clear hfz40_3
                try clear hfz40_4
                try clear hfz40_5
                try clear hfz40_6
                try clear hfz40_7
                try clear hfz40_8
                try clear hfz41_0
                try clear hfz41_1
                try clear hfz41_2
                try clear hfz41_3
                try clear hfz41_4
                try clear hfz41_5
                try clear hfz41_6
                try clear hfz41_7
                try clear hfz41_8
                try clear hfz5_0
                try clear hfz5_1
                try clear hfz5_2
                try clear hfz5_3
                try clear hfz5_4
                try clear hfz5_5
                try clear hfz5_6
                try clear hfz5_7
                try clear hfz5_8
                try clear hfz7_0
                try clear hfz7_1
                try clear hfz7_2
                try clear hfz7_3
                try clear hfz7_4
                try clear hfz7_5
                try clear hfz7_6
                try clear hfz7_7
                try clear hfz7_8
                try clear hfz9_0
                try clear hfz9_1
                try clear hfz9_2
                try clear hfz9_3
                try clear hfz9_4
                try clear hfz9_5
                try clear hfz9_6
                try clear hfz9_7
                try clear hfz9_8
                try clear p2
                obtain ⟨kq, x79_28, rfl, HA, HJ28, BK174, HB⟩ := hcut
                cases kq with
                | zero => exact absurd HA.out (by simp [vespersref09_May.j2])
                | succ kj28 =>
                  have H := HA.out
                  clear HA
                  simp only [vespersref09_May.j2] at H
                  by_cases c42 : x79_28 = true
                  · subst c42
                    have H1 : (some false) = some r := by rw [if_pos rfl] at H; exact H
                    clear H
                    have H := H1
                    clear H1
                    obtain rfl := Option.some.inj H
                    go_wp2
                    go_ret
                    exact ⟨by first | rfl | (simp [errW_none, errW_some] <;> rfl) | (simp [*, errW_none, errW_some] <;> rfl) | (simp only [IntWalk.i64_left]; rfl), by repeat (first | (with_reducible first | exact HB.out | apply below_alloc | apply pw_below_drewN | apply below_drew1 | refine below_set ?_ GE174.out) | exact HB.out)⟩
                  · replace c42 := Bool.eq_false_iff.mpr c42
                    subst c42
                    have H1 : (if a0_0 = 2 then (if (l0_5.length : Int) > 0 then (some false) else (if (l0_7.length : Int) = 0 then (some true) else (if (l0_4.length : Int) > 0 then (some true) else (some (decide ((l0_6.length : Int) > 0)))))) else (if (l0_7.length : Int) = 0 then (some true) else (if (l0_4.length : Int) > 0 then (some true) else (if (l0_5.length : Int) > 0 then (some true) else (some (decide ((l0_6.length : Int) > 0))))))) = some r := by rw [if_neg (show ¬ (false = true) by decide)] at H; exact H
                    clear H
                    have H := H1
                    clear H1
                    by_cases c43 : a0_0 = 2
                    · rw [if_pos c43] at H
                      have c43b0 : (a0_0 == 2) = true := beq_iff_eq.mpr c43
                      have c43b1 : (a0_0 != 2) = false := bne_eq_false_iff_eq.mpr c43
                      clear c43
                      by_cases c44 : (l0_5.length : Int) > 0
                      · rw [if_pos c44] at H
                        have c44b0 : decide (0 < (l0_5.length : Int)) = true := decide_eq_true c44
                        have c44b1 : decide (0 < l0_5.length) = true := decide_eq_true (by omega)
                        clear c44
                        obtain rfl := Option.some.inj H
                        have hcz45_0 : wc.cell? ⟨gb174, 0, none⟩ = some (.int .i64 a0_0) := (blk_cell BK174.out 0).trans rfl
                        have hcz45_1 : wc.cell? ⟨gb174, 1, none⟩ = some (.int .i64 a0_1) := (blk_cell BK174.out 1).trans rfl
                        have hcz45_2 : wc.cell? ⟨gb174, 2, none⟩ = some (.int .i64 a0_2) := (blk_cell BK174.out 2).trans rfl
                        have hcz45_3 : wc.cell? ⟨gb174, 3, none⟩ = some (.int .i64 a0_3) := (blk_cell BK174.out 3).trans rfl
                        have hcz45_4 : wc.cell? ⟨gb174, 4, none⟩ = some (.slice A0_4 l0_4.length c0_4) := (blk_cell BK174.out 4).trans rfl
                        have hcz45_5 : wc.cell? ⟨gb174, 5, none⟩ = some (.slice A0_5 l0_5.length c0_5) := (blk_cell BK174.out 5).trans rfl
                        have hcz45_6 : wc.cell? ⟨gb174, 6, none⟩ = some (.slice A0_6 l0_6.length c0_6) := (blk_cell BK174.out 6).trans rfl
                        have hcz45_7 : wc.cell? ⟨gb174, 7, none⟩ = some (.slice A0_7 l0_7.length c0_7) := (blk_cell BK174.out 7).trans rfl
                        have hcz45_8 : wc.cell? ⟨gb174, 8, none⟩ = some (.int .i64 a0_8) := (blk_cell BK174.out 8).trans rfl
                        have hfz45_0 := blk_frozen BK174.out 0
                        have hfz45_1 := blk_frozen BK174.out 1
                        have hfz45_2 := blk_frozen BK174.out 2
                        have hfz45_3 := blk_frozen BK174.out 3
                        have hfz45_4 := blk_frozen BK174.out 4
                        have hfz45_5 := blk_frozen BK174.out 5
                        have hfz45_6 := blk_frozen BK174.out 6
                        have hfz45_7 := blk_frozen BK174.out 7
                        have hfz45_8 := blk_frozen BK174.out 8
                        go_wp2
                        go_ret
                        exact ⟨by first | rfl | (simp [errW_none, errW_some] <;> rfl) | (simp [*, errW_none, errW_some] <;> rfl) | (simp only [IntWalk.i64_left]; rfl), by repeat (first | (with_reducible first | exact HB.out | apply below_alloc | apply pw_below_drewN | apply below_drew1 | refine below_set ?_ GE174.out) | exact HB.out)⟩
                      · rw [if_neg c44] at H
                        have c44b0 : decide (0 < (l0_5.length : Int)) = false := decide_eq_false c44
                        have c44b1 : decide (0 < l0_5.length) = false := decide_eq_false (by omega)
                        clear c44
                        by_cases c46 : (l0_7.length : Int) = 0
                        · rw [if_pos c46] at H
                          have c46b0 : ((l0_7.length : Int) == 0) = true := beq_iff_eq.mpr c46
                          have c46b1 : ((l0_7.length : Int) != 0) = false := bne_eq_false_iff_eq.mpr c46
                          clear c46
                          obtain rfl := Option.some.inj H
                          have hcz47_0 : wc.cell? ⟨gb174, 0, none⟩ = some (.int .i64 a0_0) := (blk_cell BK174.out 0).trans rfl
                          have hcz47_1 : wc.cell? ⟨gb174, 1, none⟩ = some (.int .i64 a0_1) := (blk_cell BK174.out 1).trans rfl
                          have hcz47_2 : wc.cell? ⟨gb174, 2, none⟩ = some (.int .i64 a0_2) := (blk_cell BK174.out 2).trans rfl
                          have hcz47_3 : wc.cell? ⟨gb174, 3, none⟩ = some (.int .i64 a0_3) := (blk_cell BK174.out 3).trans rfl
                          have hcz47_4 : wc.cell? ⟨gb174, 4, none⟩ = some (.slice A0_4 l0_4.length c0_4) := (blk_cell BK174.out 4).trans rfl
                          have hcz47_5 : wc.cell? ⟨gb174, 5, none⟩ = some (.slice A0_5 l0_5.length c0_5) := (blk_cell BK174.out 5).trans rfl
                          have hcz47_6 : wc.cell? ⟨gb174, 6, none⟩ = some (.slice A0_6 l0_6.length c0_6) := (blk_cell BK174.out 6).trans rfl
                          have hcz47_7 : wc.cell? ⟨gb174, 7, none⟩ = some (.slice A0_7 l0_7.length c0_7) := (blk_cell BK174.out 7).trans rfl
                          have hcz47_8 : wc.cell? ⟨gb174, 8, none⟩ = some (.int .i64 a0_8) := (blk_cell BK174.out 8).trans rfl
                          have hfz47_0 := blk_frozen BK174.out 0
                          have hfz47_1 := blk_frozen BK174.out 1
                          have hfz47_2 := blk_frozen BK174.out 2
                          have hfz47_3 := blk_frozen BK174.out 3
                          have hfz47_4 := blk_frozen BK174.out 4
                          have hfz47_5 := blk_frozen BK174.out 5
                          have hfz47_6 := blk_frozen BK174.out 6
                          have hfz47_7 := blk_frozen BK174.out 7
                          have hfz47_8 := blk_frozen BK174.out 8
                          go_wp2
                          go_ret
                          exact ⟨by first | rfl | (simp [errW_none, errW_some] <;> rfl) | (simp [*, errW_none, errW_some] <;> rfl) | (simp only [IntWalk.i64_left]; rfl), by repeat (first | (with_reducible first | exact HB.out | apply below_alloc | apply pw_below_drewN | apply below_drew1 | refine below_set ?_ GE174.out) | exact HB.out)⟩
                        · rw [if_neg c46] at H
                          have c46b0 : ((l0_7.length : Int) == 0) = false := beq_eq_false_iff_ne.mpr c46
                          have c46b1 : ((l0_7.length : Int) != 0) = true := bne_iff_ne.mpr c46
                          have c46b2 : ¬ (l0_7 = []) := fun h_ => c46 (by rw [h_]; rfl)
                          by_cases c48 : (l0_4.length : Int) > 0
                          · rw [if_pos c48] at H
                            have c48b0 : decide (0 < (l0_4.length : Int)) = true := decide_eq_true c48
                            have c48b1 : decide (0 < l0_4.length) = true := decide_eq_true (by omega)
                            clear c48
                            obtain rfl := Option.some.inj H
                            have hcz49_0 : wc.cell? ⟨gb174, 0, none⟩ = some (.int .i64 a0_0) := (blk_cell BK174.out 0).trans rfl
                            have hcz49_1 : wc.cell? ⟨gb174, 1, none⟩ = some (.int .i64 a0_1) := (blk_cell BK174.out 1).trans rfl
                            have hcz49_2 : wc.cell? ⟨gb174, 2, none⟩ = some (.int .i64 a0_2) := (blk_cell BK174.out 2).trans rfl
                            have hcz49_3 : wc.cell? ⟨gb174, 3, none⟩ = some (.int .i64 a0_3) := (blk_cell BK174.out 3).trans rfl
                            have hcz49_4 : wc.cell? ⟨gb174, 4, none⟩ = some (.slice A0_4 l0_4.length c0_4) := (blk_cell BK174.out 4).trans rfl
                            have hcz49_5 : wc.cell? ⟨gb174, 5, none⟩ = some (.slice A0_5 l0_5.length c0_5) := (blk_cell BK174.out 5).trans rfl
                            have hcz49_6 : wc.cell? ⟨gb174, 6, none⟩ = some (.slice A0_6 l0_6.length c0_6) := (blk_cell BK174.out 6).trans rfl
                            have hcz49_7 : wc.cell? ⟨gb174, 7, none⟩ = some (.slice A0_7 l0_7.length c0_7) := (blk_cell BK174.out 7).trans rfl
                            have hcz49_8 : wc.cell? ⟨gb174, 8, none⟩ = some (.int .i64 a0_8) := (blk_cell BK174.out 8).trans rfl
                            have hfz49_0 := blk_frozen BK174.out 0
                            have hfz49_1 := blk_frozen BK174.out 1
                            have hfz49_2 := blk_frozen BK174.out 2
                            have hfz49_3 := blk_frozen BK174.out 3
                            have hfz49_4 := blk_frozen BK174.out 4
                            have hfz49_5 := blk_frozen BK174.out 5
                            have hfz49_6 := blk_frozen BK174.out 6
                            have hfz49_7 := blk_frozen BK174.out 7
                            have hfz49_8 := blk_frozen BK174.out 8
                            go_wp2
                            go_ret
                            exact ⟨by first | rfl | (simp [errW_none, errW_some] <;> rfl) | (simp [*, errW_none, errW_some] <;> rfl) | (simp only [IntWalk.i64_left]; rfl), by repeat (first | (with_reducible first | exact HB.out | apply below_alloc | apply pw_below_drewN | apply below_drew1 | refine below_set ?_ GE174.out) | exact HB.out)⟩
                          · rw [if_neg c48] at H
                            have c48b0 : decide (0 < (l0_4.length : Int)) = false := decide_eq_false c48
                            have c48b1 : decide (0 < l0_4.length) = false := decide_eq_false (by omega)
                            clear c48
                            obtain rfl := Option.some.inj H
                            have hcz50_0 : wc.cell? ⟨gb174, 0, none⟩ = some (.int .i64 a0_0) := (blk_cell BK174.out 0).trans rfl
                            have hcz50_1 : wc.cell? ⟨gb174, 1, none⟩ = some (.int .i64 a0_1) := (blk_cell BK174.out 1).trans rfl
                            have hcz50_2 : wc.cell? ⟨gb174, 2, none⟩ = some (.int .i64 a0_2) := (blk_cell BK174.out 2).trans rfl
                            have hcz50_3 : wc.cell? ⟨gb174, 3, none⟩ = some (.int .i64 a0_3) := (blk_cell BK174.out 3).trans rfl
                            have hcz50_4 : wc.cell? ⟨gb174, 4, none⟩ = some (.slice A0_4 l0_4.length c0_4) := (blk_cell BK174.out 4).trans rfl
                            have hcz50_5 : wc.cell? ⟨gb174, 5, none⟩ = some (.slice A0_5 l0_5.length c0_5) := (blk_cell BK174.out 5).trans rfl
                            have hcz50_6 : wc.cell? ⟨gb174, 6, none⟩ = some (.slice A0_6 l0_6.length c0_6) := (blk_cell BK174.out 6).trans rfl
                            have hcz50_7 : wc.cell? ⟨gb174, 7, none⟩ = some (.slice A0_7 l0_7.length c0_7) := (blk_cell BK174.out 7).trans rfl
                            have hcz50_8 : wc.cell? ⟨gb174, 8, none⟩ = some (.int .i64 a0_8) := (blk_cell BK174.out 8).trans rfl
                            have hfz50_0 := blk_frozen BK174.out 0
                            have hfz50_1 := blk_frozen BK174.out 1
                            have hfz50_2 := blk_frozen BK174.out 2
                            have hfz50_3 := blk_frozen BK174.out 3
                            have hfz50_4 := blk_frozen BK174.out 4
                            have hfz50_5 := blk_frozen BK174.out 5
                            have hfz50_6 := blk_frozen BK174.out 6
                            have hfz50_7 := blk_frozen BK174.out 7
                            have hfz50_8 := blk_frozen BK174.out 8
                            go_wp2
                            go_ret
                            exact ⟨by first | rfl | (simp [errW_none, errW_some] <;> rfl) | (simp [*, errW_none, errW_some] <;> rfl) | (simp only [IntWalk.i64_left]; rfl), by repeat (first | (with_reducible first | exact HB.out | apply below_alloc | apply pw_below_drewN | apply below_drew1 | refine below_set ?_ GE174.out) | exact HB.out)⟩
                    · rw [if_neg c43] at H
                      have c43b0 : (a0_0 == 2) = false := beq_eq_false_iff_ne.mpr c43
                      have c43b1 : (a0_0 != 2) = true := bne_iff_ne.mpr c43
                      by_cases c51 : (l0_7.length : Int) = 0
                      · rw [if_pos c51] at H
                        have c51b0 : ((l0_7.length : Int) == 0) = true := beq_iff_eq.mpr c51
                        have c51b1 : ((l0_7.length : Int) != 0) = false := bne_eq_false_iff_eq.mpr c51
                        clear c51
                        obtain rfl := Option.some.inj H
                        have hcz52_0 : wc.cell? ⟨gb174, 0, none⟩ = some (.int .i64 a0_0) := (blk_cell BK174.out 0).trans rfl
                        have hcz52_1 : wc.cell? ⟨gb174, 1, none⟩ = some (.int .i64 a0_1) := (blk_cell BK174.out 1).trans rfl
                        have hcz52_2 : wc.cell? ⟨gb174, 2, none⟩ = some (.int .i64 a0_2) := (blk_cell BK174.out 2).trans rfl
                        have hcz52_3 : wc.cell? ⟨gb174, 3, none⟩ = some (.int .i64 a0_3) := (blk_cell BK174.out 3).trans rfl
                        have hcz52_4 : wc.cell? ⟨gb174, 4, none⟩ = some (.slice A0_4 l0_4.length c0_4) := (blk_cell BK174.out 4).trans rfl
                        have hcz52_5 : wc.cell? ⟨gb174, 5, none⟩ = some (.slice A0_5 l0_5.length c0_5) := (blk_cell BK174.out 5).trans rfl
                        have hcz52_6 : wc.cell? ⟨gb174, 6, none⟩ = some (.slice A0_6 l0_6.length c0_6) := (blk_cell BK174.out 6).trans rfl
                        have hcz52_7 : wc.cell? ⟨gb174, 7, none⟩ = some (.slice A0_7 l0_7.length c0_7) := (blk_cell BK174.out 7).trans rfl
                        have hcz52_8 : wc.cell? ⟨gb174, 8, none⟩ = some (.int .i64 a0_8) := (blk_cell BK174.out 8).trans rfl
                        have hfz52_0 := blk_frozen BK174.out 0
                        have hfz52_1 := blk_frozen BK174.out 1
                        have hfz52_2 := blk_frozen BK174.out 2
                        have hfz52_3 := blk_frozen BK174.out 3
                        have hfz52_4 := blk_frozen BK174.out 4
                        have hfz52_5 := blk_frozen BK174.out 5
                        have hfz52_6 := blk_frozen BK174.out 6
                        have hfz52_7 := blk_frozen BK174.out 7
                        have hfz52_8 := blk_frozen BK174.out 8
                        go_wp2
                        go_ret
                        exact ⟨by first | rfl | (simp [errW_none, errW_some] <;> rfl) | (simp [*, errW_none, errW_some] <;> rfl) | (simp only [IntWalk.i64_left]; rfl), by repeat (first | (with_reducible first | exact HB.out | apply below_alloc | apply pw_below_drewN | apply below_drew1 | refine below_set ?_ GE174.out) | exact HB.out)⟩
                      · rw [if_neg c51] at H
                        have c51b0 : ((l0_7.length : Int) == 0) = false := beq_eq_false_iff_ne.mpr c51
                        have c51b1 : ((l0_7.length : Int) != 0) = true := bne_iff_ne.mpr c51
                        have c51b2 : ¬ (l0_7 = []) := fun h_ => c51 (by rw [h_]; rfl)
                        by_cases c53 : (l0_4.length : Int) > 0
                        · rw [if_pos c53] at H
                          have c53b0 : decide (0 < (l0_4.length : Int)) = true := decide_eq_true c53
                          have c53b1 : decide (0 < l0_4.length) = true := decide_eq_true (by omega)
                          clear c53
                          obtain rfl := Option.some.inj H
                          have hcz54_0 : wc.cell? ⟨gb174, 0, none⟩ = some (.int .i64 a0_0) := (blk_cell BK174.out 0).trans rfl
                          have hcz54_1 : wc.cell? ⟨gb174, 1, none⟩ = some (.int .i64 a0_1) := (blk_cell BK174.out 1).trans rfl
                          have hcz54_2 : wc.cell? ⟨gb174, 2, none⟩ = some (.int .i64 a0_2) := (blk_cell BK174.out 2).trans rfl
                          have hcz54_3 : wc.cell? ⟨gb174, 3, none⟩ = some (.int .i64 a0_3) := (blk_cell BK174.out 3).trans rfl
                          have hcz54_4 : wc.cell? ⟨gb174, 4, none⟩ = some (.slice A0_4 l0_4.length c0_4) := (blk_cell BK174.out 4).trans rfl
                          have hcz54_5 : wc.cell? ⟨gb174, 5, none⟩ = some (.slice A0_5 l0_5.length c0_5) := (blk_cell BK174.out 5).trans rfl
                          have hcz54_6 : wc.cell? ⟨gb174, 6, none⟩ = some (.slice A0_6 l0_6.length c0_6) := (blk_cell BK174.out 6).trans rfl
                          have hcz54_7 : wc.cell? ⟨gb174, 7, none⟩ = some (.slice A0_7 l0_7.length c0_7) := (blk_cell BK174.out 7).trans rfl
                          have hcz54_8 : wc.cell? ⟨gb174, 8, none⟩ = some (.int .i64 a0_8) := (blk_cell BK174.out 8).trans rfl
                          have hfz54_0 := blk_frozen BK174.out 0
                          have hfz54_1 := blk_frozen BK174.out 1
                          have hfz54_2 := blk_frozen BK174.out 2
                          have hfz54_3 := blk_frozen BK174.out 3
                          have hfz54_4 := blk_frozen BK174.out 4
                          have hfz54_5 := blk_frozen BK174.out 5
                          have hfz54_6 := blk_frozen BK174.out 6
                          have hfz54_7 := blk_frozen BK174.out 7
                          have hfz54_8 := blk_frozen BK174.out 8
                          go_wp2
                          go_ret
                          exact ⟨by first | rfl | (simp [errW_none, errW_some] <;> rfl) | (simp [*, errW_none, errW_some] <;> rfl) | (simp only [IntWalk.i64_left]; rfl), by repeat (first | (with_reducible first | exact HB.out | apply below_alloc | apply pw_below_drewN | apply below_drew1 | refine below_set ?_ GE174.out) | exact HB.out)⟩
                        · rw [if_neg c53] at H
                          have c53b0 : decide (0 < (l0_4.length : Int)) = false := decide_eq_false c53
                          have c53b1 : decide (0 < l0_4.length) = false := decide_eq_false (by omega)
                          clear c53
                          by_cases c55 : (l0_5.length : Int) > 0
                          · rw [if_pos c55] at H
                            have c55b0 : decide (0 < (l0_5.length : Int)) = true := decide_eq_true c55
                            have c55b1 : decide (0 < l0_5.length) = true := decide_eq_true (by omega)
                            clear c55
                            obtain rfl := Option.some.inj H
                            have hcz56_0 : wc.cell? ⟨gb174, 0, none⟩ = some (.int .i64 a0_0) := (blk_cell BK174.out 0).trans rfl
                            have hcz56_1 : wc.cell? ⟨gb174, 1, none⟩ = some (.int .i64 a0_1) := (blk_cell BK174.out 1).trans rfl
                            have hcz56_2 : wc.cell? ⟨gb174, 2, none⟩ = some (.int .i64 a0_2) := (blk_cell BK174.out 2).trans rfl
                            have hcz56_3 : wc.cell? ⟨gb174, 3, none⟩ = some (.int .i64 a0_3) := (blk_cell BK174.out 3).trans rfl
                            have hcz56_4 : wc.cell? ⟨gb174, 4, none⟩ = some (.slice A0_4 l0_4.length c0_4) := (blk_cell BK174.out 4).trans rfl
                            have hcz56_5 : wc.cell? ⟨gb174, 5, none⟩ = some (.slice A0_5 l0_5.length c0_5) := (blk_cell BK174.out 5).trans rfl
                            have hcz56_6 : wc.cell? ⟨gb174, 6, none⟩ = some (.slice A0_6 l0_6.length c0_6) := (blk_cell BK174.out 6).trans rfl
                            have hcz56_7 : wc.cell? ⟨gb174, 7, none⟩ = some (.slice A0_7 l0_7.length c0_7) := (blk_cell BK174.out 7).trans rfl
                            have hcz56_8 : wc.cell? ⟨gb174, 8, none⟩ = some (.int .i64 a0_8) := (blk_cell BK174.out 8).trans rfl
                            have hfz56_0 := blk_frozen BK174.out 0
                            have hfz56_1 := blk_frozen BK174.out 1
                            have hfz56_2 := blk_frozen BK174.out 2
                            have hfz56_3 := blk_frozen BK174.out 3
                            have hfz56_4 := blk_frozen BK174.out 4
                            have hfz56_5 := blk_frozen BK174.out 5
                            have hfz56_6 := blk_frozen BK174.out 6
                            have hfz56_7 := blk_frozen BK174.out 7
                            have hfz56_8 := blk_frozen BK174.out 8
                            go_wp2
                            go_ret
                            exact ⟨by first | rfl | (simp [errW_none, errW_some] <;> rfl) | (simp [*, errW_none, errW_some] <;> rfl) | (simp only [IntWalk.i64_left]; rfl), by repeat (first | (with_reducible first | exact HB.out | apply below_alloc | apply pw_below_drewN | apply below_drew1 | refine below_set ?_ GE174.out) | exact HB.out)⟩
                          · rw [if_neg c55] at H
                            have c55b0 : decide (0 < (l0_5.length : Int)) = false := decide_eq_false c55
                            have c55b1 : decide (0 < l0_5.length) = false := decide_eq_false (by omega)
                            clear c55
                            obtain rfl := Option.some.inj H
                            have hcz57_0 : wc.cell? ⟨gb174, 0, none⟩ = some (.int .i64 a0_0) := (blk_cell BK174.out 0).trans rfl
                            have hcz57_1 : wc.cell? ⟨gb174, 1, none⟩ = some (.int .i64 a0_1) := (blk_cell BK174.out 1).trans rfl
                            have hcz57_2 : wc.cell? ⟨gb174, 2, none⟩ = some (.int .i64 a0_2) := (blk_cell BK174.out 2).trans rfl
                            have hcz57_3 : wc.cell? ⟨gb174, 3, none⟩ = some (.int .i64 a0_3) := (blk_cell BK174.out 3).trans rfl
                            have hcz57_4 : wc.cell? ⟨gb174, 4, none⟩ = some (.slice A0_4 l0_4.length c0_4) := (blk_cell BK174.out 4).trans rfl
                            have hcz57_5 : wc.cell? ⟨gb174, 5, none⟩ = some (.slice A0_5 l0_5.length c0_5) := (blk_cell BK174.out 5).trans rfl
                            have hcz57_6 : wc.cell? ⟨gb174, 6, none⟩ = some (.slice A0_6 l0_6.length c0_6) := (blk_cell BK174.out 6).trans rfl
                            have hcz57_7 : wc.cell? ⟨gb174, 7, none⟩ = some (.slice A0_7 l0_7.length c0_7) := (blk_cell BK174.out 7).trans rfl
                            have hcz57_8 : wc.cell? ⟨gb174, 8, none⟩ = some (.int .i64 a0_8) := (blk_cell BK174.out 8).trans rfl
                            have hfz57_0 := blk_frozen BK174.out 0
                            have hfz57_1 := blk_frozen BK174.out 1
                            have hfz57_2 := blk_frozen BK174.out 2
                            have hfz57_3 := blk_frozen BK174.out 3
                            have hfz57_4 := blk_frozen BK174.out 4
                            have hfz57_5 := blk_frozen BK174.out 5
                            have hfz57_6 := blk_frozen BK174.out 6
                            have hfz57_7 := blk_frozen BK174.out 7
                            have hfz57_8 := blk_frozen BK174.out 8
                            go_wp2
                            go_ret
                            exact ⟨by first | rfl | (simp [errW_none, errW_some] <;> rfl) | (simp [*, errW_none, errW_some] <;> rfl) | (simp only [IntWalk.i64_left]; rfl), by repeat (first | (with_reducible first | exact HB.out | apply below_alloc | apply pw_below_drewN | apply below_drew1 | refine below_set ?_ GE174.out) | exact HB.out)⟩

end Go.Proofs.Ytinjbpbpgogdhaa.Own
end
