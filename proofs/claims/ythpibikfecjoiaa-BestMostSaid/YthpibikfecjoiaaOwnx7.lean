-- own text: made by a program of this session out of the plain functions' print
import Derived.Test.YthpibikfecjoiaaOwnx0
import Derived.Test.YthpibikfecjoiaaOwnx2
import Derived.Test.YthpibikfecjoiaaOwnx2b
import Derived.Test.YthpibikfecjoiaaOwnx6
import Derived.Test.YthpibikfecjoiaaMay5
import Derived.Test.YthpibikfecjoiaaFld
namespace Go.Proofs.Ythpibikfecjoiaa.Own
open Go.RowKit Go.Proofs.YthpibikfecjoiaaW.PrintWords Go.Proofs.YthpibikfecjoiaaW.PrintLast Go.Proofs.YthpibikfecjoiaaW.PrintMore
attribute [local go_sem] max2_int min2_int max_two min_two max_three min_three max_four min_four   -- for this text's walks alone
attribute [local go_sem] field28_0
set_option linter.unusedVariables false
set_option linter.unusedSimpArgs false

/-! ### vesperslaw21_BestMost: function 6 -/
mutual
def vesperslaw21_BestMost.j0 : Nat → List (S33) → List Bool → Int → List (S39) → List Int → Bool → Option (Bool)
  | 0, _, _, _, _, _, _ => none
  | k + 1, x0, x1, x2, x3, x4, x37 => if x37 = true then ((vesperslaw21_fixed.f).bind fun t237 => (some t237)) else ((best_May.f x0 x1 x2 x3 x4).bind fun t238 => ((vespersref21_May.f k x0 x1 x2 x3 x4).bind fun t239 => (if (t238 != t239) = true then (some false) else ((best_Choose.f x0 x1 x2 x3).bind fun bt240 => (vesperslaw21_BestMost.l0 k x0 x1 x2 t238 0 x4 (x4.length : Int) 0 bt240.1 bt240.2.1 bt240.2.2)))))
def vesperslaw21_BestMost.l0 : Nat → List (S33) → List Bool → Int → Bool → Int → List Int → Int → Int → Int → List Int → Int → Option (Bool)
  | 0, _, _, _, _, _, _, _, _, _, _, _ => none
  | k + 1, x0, x1, x2, x11, x13, x58, x59, x60, x246000, x246001, x246002 => if x60 < x59 then (if 0 ≤ x60 then (if x60 < (x58.length : Int) then (if x11 = true then (if 0 ≤ (rd x58 x60) then (if (rd x58 x60) < (x0.length : Int) then (vesperslaw21_BestMost.l0 k x0 x1 x2 x11 (wrap64 (x13 + (mn (mx ((rd_T33 x0 (rd x58 x60)).f1) 0) 1000))) x58 x59 (wrap64 (x60 + 1)) x246000 x246001 x246002) else (none)) else (none)) else (vesperslaw21_BestMost.l0 k x0 x1 x2 x11 x13 x58 x59 (wrap64 (x60 + 1)) x246000 x246001 x246002)) else (none)) else (none)) else (if x11 = true then (if x13 > x246000 then (vesperslaw21_BestMost.j2 k x0 x1 x2 true x246000 x246001 x246002) else (if 0 ≤ (wrap64 ((x0.length : Int) + 1)) then (vesperslaw21_BestMost.j2 k x0 x1 x2 (decide (x246002 > (shl .i64 1 (wrap64 ((x0.length : Int) + 1))))) x246000 x246001 x246002) else (none))) else (if 0 ≤ (wrap64 ((x0.length : Int) + 1)) then (vesperslaw21_BestMost.j2 k x0 x1 x2 (decide (x246002 > (shl .i64 1 (wrap64 ((x0.length : Int) + 1))))) x246000 x246001 x246002) else (none)))
def vesperslaw21_BestMost.j2 : Nat → List (S33) → List Bool → Int → Bool → Int → List Int → Int → Option (Bool)
  | 0, _, _, _, _, _, _, _ => none
  | k + 1, x0, x1, x2, x90, x246000, x246001, x246002 => if x90 = true then (some false) else (vesperslaw21_BestMost.l1 k x0 x1 x2 0 0 x246001 (x246001.length : Int) 0)
def vesperslaw21_BestMost.l1 : Nat → List (S33) → List Bool → Int → Int → Int → List Int → Int → Int → Option (Bool)
  | 0, _, _, _, _, _, _, _, _ => none
  | k + 1, x0, x1, x2, x16, x17, x92, x93, x94 => if x94 < x93 then (if 0 ≤ x94 then (if x94 < (x92.length : Int) then (vesperslaw21_BestMost.l2 k x0 x1 x2 x16 x17 (rd x92 x94) x92 x93 x94) else (none)) else (none)) else ((vesperslaw21_fixed.f).bind fun t248 => (if t248 = true then (if x2 < 0 then (some true) else (some (decide (x17 ≤ x2)))) else (some false)))
def vesperslaw21_BestMost.l2 : Nat → List (S33) → List Bool → Int → Int → Int → Int → List Int → Int → Int → Option (Bool)
  | 0, _, _, _, _, _, _, _, _, _ => none
  | k + 1, x0, x1, x2, x16, x17, x19, x92, x93, x94 => if x16 < (x0.length : Int) then (if 0 ≤ x16 then (if ((rd_T33 x0 x16).f0) = x19 then (if x16 ≥ (x1.length : Int) then (vesperslaw21_BestMost.l2 k x0 x1 x2 (wrap64 (x16 + 1)) x17 x19 x92 x93 x94) else (if x16 < (x1.length : Int) then (if rdOf false x1 x16 = true then (if x16 = (x0.length : Int) then (some false) else (vesperslaw21_BestMost.l1 k x0 x1 x2 (wrap64 (x16 + 1)) (wrap64 (x17 + 1)) x92 x93 (wrap64 (x94 + 1)))) else (vesperslaw21_BestMost.l2 k x0 x1 x2 (wrap64 (x16 + 1)) x17 x19 x92 x93 x94)) else (none))) else (vesperslaw21_BestMost.l2 k x0 x1 x2 (wrap64 (x16 + 1)) x17 x19 x92 x93 x94)) else (none)) else (if x16 = (x0.length : Int) then (some false) else (vesperslaw21_BestMost.l1 k x0 x1 x2 (wrap64 (x16 + 1)) (wrap64 (x17 + 1)) x92 x93 (wrap64 (x94 + 1))))
end
def vesperslaw21_BestMost.f (k : Nat) (l0 : List (S33)) (l1 : List Bool) (a2 : Int) (l3 : List (S39)) (l4 : List Int) : Option (Bool) := if (l0.length : Int) > 16 then (vesperslaw21_BestMost.j0 k l0 l1 a2 l3 l4 true) else (if (l3.length : Int) > 40 then (vesperslaw21_BestMost.j0 k l0 l1 a2 l3 l4 true) else (if (l1.length : Int) > 100 then (vesperslaw21_BestMost.j0 k l0 l1 a2 l3 l4 true) else (vesperslaw21_BestMost.j0 k l0 l1 a2 l3 l4 (decide ((l4.length : Int) > 20)))))
theorem vesperslaw21_BestMost.mono_l : ∀ k, (∀ y0 y1 y2 y3 y4 y5, LeO (vesperslaw21_BestMost.j0 k y0 y1 y2 y3 y4 y5) (vesperslaw21_BestMost.j0 (k + 1) y0 y1 y2 y3 y4 y5)) ∧ (∀ y0 y1 y2 y3 y4 y5 y6 y7 y8 y9 y10, LeO (vesperslaw21_BestMost.l0 k y0 y1 y2 y3 y4 y5 y6 y7 y8 y9 y10) (vesperslaw21_BestMost.l0 (k + 1) y0 y1 y2 y3 y4 y5 y6 y7 y8 y9 y10)) ∧ (∀ y0 y1 y2 y3 y4 y5 y6, LeO (vesperslaw21_BestMost.j2 k y0 y1 y2 y3 y4 y5 y6) (vesperslaw21_BestMost.j2 (k + 1) y0 y1 y2 y3 y4 y5 y6)) ∧ (∀ y0 y1 y2 y3 y4 y5 y6 y7, LeO (vesperslaw21_BestMost.l1 k y0 y1 y2 y3 y4 y5 y6 y7) (vesperslaw21_BestMost.l1 (k + 1) y0 y1 y2 y3 y4 y5 y6 y7)) ∧ (∀ y0 y1 y2 y3 y4 y5 y6 y7 y8, LeO (vesperslaw21_BestMost.l2 k y0 y1 y2 y3 y4 y5 y6 y7 y8) (vesperslaw21_BestMost.l2 (k + 1) y0 y1 y2 y3 y4 y5 y6 y7 y8))
  | 0 => ⟨fun _ _ _ _ _ _ r h => by simp [vesperslaw21_BestMost.j0] at h, fun _ _ _ _ _ _ _ _ _ _ _ r h => by simp [vesperslaw21_BestMost.l0] at h, fun _ _ _ _ _ _ _ r h => by simp [vesperslaw21_BestMost.j2] at h, fun _ _ _ _ _ _ _ _ r h => by simp [vesperslaw21_BestMost.l1] at h, fun _ _ _ _ _ _ _ _ _ r h => by simp [vesperslaw21_BestMost.l2] at h⟩
  | k + 1 => by
    obtain ⟨ih0, ih1, ih2, ih3, ih4⟩ := vesperslaw21_BestMost.mono_l k
    refine ⟨?_, ?_, ?_, ?_, ?_⟩
    · intro y0 y1 y2 y3 y4 y5
      unfold vesperslaw21_BestMost.j0
      repeat' first
      | (with_reducible exact ih0 _ _ _ _ _ _)
      | (with_reducible exact ih1 _ _ _ _ _ _ _ _ _ _ _)
      | (with_reducible exact ih2 _ _ _ _ _ _ _)
      | (with_reducible exact ih3 _ _ _ _ _ _ _ _)
      | (with_reducible exact ih4 _ _ _ _ _ _ _ _ _)
      | (with_reducible exact vespersref21_May.mono _ _ _ _ _ _)
      | (with_reducible exact LeO.refl _)
      | (with_reducible exact LeO.none _)
      | (with_reducible refine LeO.ite ?_ ?_)
      | (with_reducible refine LeO.bind ?_ (fun _ => ?_))
      | exact ih0 _ _ _ _ _ _
      | exact ih1 _ _ _ _ _ _ _ _ _ _ _
      | exact ih2 _ _ _ _ _ _ _
      | exact ih3 _ _ _ _ _ _ _ _
      | exact ih4 _ _ _ _ _ _ _ _ _
      | exact vespersref21_May.mono _ _ _ _ _ _
      | exact LeO.none _
      | refine LeO.ite ?_ ?_
      | refine LeO.bind ?_ (fun _ => ?_)
    · intro y0 y1 y2 y3 y4 y5 y6 y7 y8 y9 y10
      unfold vesperslaw21_BestMost.l0
      repeat' first
      | (with_reducible exact ih0 _ _ _ _ _ _)
      | (with_reducible exact ih1 _ _ _ _ _ _ _ _ _ _ _)
      | (with_reducible exact ih2 _ _ _ _ _ _ _)
      | (with_reducible exact ih3 _ _ _ _ _ _ _ _)
      | (with_reducible exact ih4 _ _ _ _ _ _ _ _ _)
      | (with_reducible exact vespersref21_May.mono _ _ _ _ _ _)
      | (with_reducible exact LeO.refl _)
      | (with_reducible exact LeO.none _)
      | (with_reducible refine LeO.ite ?_ ?_)
      | (with_reducible refine LeO.bind ?_ (fun _ => ?_))
      | exact ih0 _ _ _ _ _ _
      | exact ih1 _ _ _ _ _ _ _ _ _ _ _
      | exact ih2 _ _ _ _ _ _ _
      | exact ih3 _ _ _ _ _ _ _ _
      | exact ih4 _ _ _ _ _ _ _ _ _
      | exact vespersref21_May.mono _ _ _ _ _ _
      | exact LeO.none _
      | refine LeO.ite ?_ ?_
      | refine LeO.bind ?_ (fun _ => ?_)
    · intro y0 y1 y2 y3 y4 y5 y6
      unfold vesperslaw21_BestMost.j2
      repeat' first
      | (with_reducible exact ih0 _ _ _ _ _ _)
      | (with_reducible exact ih1 _ _ _ _ _ _ _ _ _ _ _)
      | (with_reducible exact ih2 _ _ _ _ _ _ _)
      | (with_reducible exact ih3 _ _ _ _ _ _ _ _)
      | (with_reducible exact ih4 _ _ _ _ _ _ _ _ _)
      | (with_reducible exact vespersref21_May.mono _ _ _ _ _ _)
      | (with_reducible exact LeO.refl _)
      | (with_reducible exact LeO.none _)
      | (with_reducible refine LeO.ite ?_ ?_)
      | (with_reducible refine LeO.bind ?_ (fun _ => ?_))
      | exact ih0 _ _ _ _ _ _
      | exact ih1 _ _ _ _ _ _ _ _ _ _ _
      | exact ih2 _ _ _ _ _ _ _
      | exact ih3 _ _ _ _ _ _ _ _
      | exact ih4 _ _ _ _ _ _ _ _ _
      | exact vespersref21_May.mono _ _ _ _ _ _
      | exact LeO.none _
      | refine LeO.ite ?_ ?_
      | refine LeO.bind ?_ (fun _ => ?_)
    · intro y0 y1 y2 y3 y4 y5 y6 y7
      unfold vesperslaw21_BestMost.l1
      repeat' first
      | (with_reducible exact ih0 _ _ _ _ _ _)
      | (with_reducible exact ih1 _ _ _ _ _ _ _ _ _ _ _)
      | (with_reducible exact ih2 _ _ _ _ _ _ _)
      | (with_reducible exact ih3 _ _ _ _ _ _ _ _)
      | (with_reducible exact ih4 _ _ _ _ _ _ _ _ _)
      | (with_reducible exact vespersref21_May.mono _ _ _ _ _ _)
      | (with_reducible exact LeO.refl _)
      | (with_reducible exact LeO.none _)
      | (with_reducible refine LeO.ite ?_ ?_)
      | (with_reducible refine LeO.bind ?_ (fun _ => ?_))
      | exact ih0 _ _ _ _ _ _
      | exact ih1 _ _ _ _ _ _ _ _ _ _ _
      | exact ih2 _ _ _ _ _ _ _
      | exact ih3 _ _ _ _ _ _ _ _
      | exact ih4 _ _ _ _ _ _ _ _ _
      | exact vespersref21_May.mono _ _ _ _ _ _
      | exact LeO.none _
      | refine LeO.ite ?_ ?_
      | refine LeO.bind ?_ (fun _ => ?_)
    · intro y0 y1 y2 y3 y4 y5 y6 y7 y8
      unfold vesperslaw21_BestMost.l2
      repeat' first
      | (with_reducible exact ih0 _ _ _ _ _ _)
      | (with_reducible exact ih1 _ _ _ _ _ _ _ _ _ _ _)
      | (with_reducible exact ih2 _ _ _ _ _ _ _)
      | (with_reducible exact ih3 _ _ _ _ _ _ _ _)
      | (with_reducible exact ih4 _ _ _ _ _ _ _ _ _)
      | (with_reducible exact vespersref21_May.mono _ _ _ _ _ _)
      | (with_reducible exact LeO.refl _)
      | (with_reducible exact LeO.none _)
      | (with_reducible refine LeO.ite ?_ ?_)
      | (with_reducible refine LeO.bind ?_ (fun _ => ?_))
      | exact ih0 _ _ _ _ _ _
      | exact ih1 _ _ _ _ _ _ _ _ _ _ _
      | exact ih2 _ _ _ _ _ _ _
      | exact ih3 _ _ _ _ _ _ _ _
      | exact ih4 _ _ _ _ _ _ _ _ _
      | exact vespersref21_May.mono _ _ _ _ _ _
      | exact LeO.none _
      | refine LeO.ite ?_ ?_
      | refine LeO.bind ?_ (fun _ => ?_)
theorem vesperslaw21_BestMost.mono : ∀ a0 a1 a2 a3 a4 k, LeO (vesperslaw21_BestMost.f k a0 a1 a2 a3 a4) (vesperslaw21_BestMost.f (k + 1) a0 a1 a2 a3 a4) := by
  intro a0 a1 a2 a3 a4 k
  obtain ⟨ih0, ih1, ih2, ih3, ih4⟩ := vesperslaw21_BestMost.mono_l k
  unfold vesperslaw21_BestMost.f
  repeat' first
      | (with_reducible exact ih0 _ _ _ _ _ _)
      | (with_reducible exact ih1 _ _ _ _ _ _ _ _ _ _ _)
      | (with_reducible exact ih2 _ _ _ _ _ _ _)
      | (with_reducible exact ih3 _ _ _ _ _ _ _ _)
      | (with_reducible exact ih4 _ _ _ _ _ _ _ _ _)
      | (with_reducible exact vespersref21_May.mono _ _ _ _ _ _)
      | (with_reducible exact LeO.refl _)
      | (with_reducible exact LeO.none _)
      | (with_reducible refine LeO.ite ?_ ?_)
      | (with_reducible refine LeO.bind ?_ (fun _ => ?_))
      | exact ih0 _ _ _ _ _ _
      | exact ih1 _ _ _ _ _ _ _ _ _ _ _
      | exact ih2 _ _ _ _ _ _ _
      | exact ih3 _ _ _ _ _ _ _ _
      | exact ih4 _ _ _ _ _ _ _ _ _
      | exact vespersref21_May.mono _ _ _ _ _ _
      | exact LeO.none _
      | refine LeO.ite ?_ ?_
      | refine LeO.bind ?_ (fun _ => ?_)
set_option maxHeartbeats 8000000 in
set_option maxRecDepth 100000 in
theorem vesperslaw21_BestMost.calls (k : Nat) (A0 : Option Addr) (c0 : Nat) (l0 : List (S33)) (A1 : Option Addr) (c1 : Nat) (l1 : List Bool) (a2 : Int) (A3 : Option Addr) (c3 : Nat) (l3 : List (S39)) (A4 : Option Addr) (c4 : Nat) (l4 : List Int) (r : Bool) (w : World) (hr0 : Kd.C k33 w A0 l0.length l0) (hc0 : l0.length ≤ c0) (hr1 : Kd.C Kd.bool w A1 l1.length l1) (hc1 : l1.length ≤ c1) (hr3 : Kd.C k39 w A3 l3.length l3) (hc3 : l3.length ≤ c3) (hr4 : Kd.C (Kd.int .i64) w A4 l4.length l4) (hc4 : l4.length ≤ c4) (h : vesperslaw21_BestMost.f k l0 l1 a2 l3 l4 = some r) :
    Calls Try.prog 6 #[.slice A0 l0.length c0, .slice A1 l1.length c1, .int .i64 a2, .slice A3 l3.length c3, .slice A4 l4.length c4] w fun e w' => e = .returned (.bool r) ∧ Below w.heap.size w w' := by
  have hu28 := Try.underlying28
  have HR0 := Aside0.mk hr0
  have HC0 := Aside0.mk hc0
  clear hr0 hc0
  have HR1 := Aside0.mk hr1
  have HC1 := Aside0.mk hc1
  clear hr1 hc1
  have HR3 := Aside0.mk hr3
  have HC3 := Aside0.mk hc3
  clear hr3 hc3
  have HR4 := Aside0.mk hr4
  have HC4 := Aside0.mk hc4
  clear hr4 hc4
  have HB := Aside0.mk (Below.refl w.heap.size w)
  have H : (if (l0.length : Int) > 16 then (vesperslaw21_BestMost.j0 k l0 l1 a2 l3 l4 true) else (if (l3.length : Int) > 40 then (vesperslaw21_BestMost.j0 k l0 l1 a2 l3 l4 true) else (if (l1.length : Int) > 100 then (vesperslaw21_BestMost.j0 k l0 l1 a2 l3 l4 true) else (vesperslaw21_BestMost.j0 k l0 l1 a2 l3 l4 (decide ((l4.length : Int) > 20)))))) = some r := h
  clear h
  have HC6 := Aside0.mk H
  clear H
  go_enter Try.func6, Try.ntmps6
  go_upto_region 1 with (fail)
  repeat (go_quiet (fail); go_upto_region 1 with (fail))
  go_cut [37] (fun v37 wc => ∃ (kq : Nat) (x37_5 : Bool), v37 = .bool x37_5 ∧ Aside0 (vesperslaw21_BestMost.j0 kq l0 l1 a2 l3 l4 x37_5 = some r) ∧ Aside0 (kq ≤ k) ∧ Aside0 (Below w.heap.size w wc))
  case first =>
    have H := HC6.out
    clear HC6
    by_cases c7 : (l0.length : Int) > 16
    · rw [if_pos c7] at H
      have c7b0 : decide (16 < (l0.length : Int)) = true := decide_eq_true c7
      have c7b1 : decide (16 < l0.length) = true := decide_eq_true (by omega)
      clear c7
      (first | rw [c7b0] | (simp only [i64_w, i32_w]; rw [c7b0]) | skip)
      have H' := Aside0.mk H
      clear H
      go_wp2
      repeat (go_quiet (fail); try go_wp2)
      go_meet
      case rel => exact ⟨_, (true), (by first | rfl | (simp; done) | (simp [*]; done)), H', ⟨by first | omega | exact Nat.le_refl _⟩, ⟨by repeat (first | (with_reducible first | exact HB.out | apply below_alloc | apply pw_below_drewN | apply below_drew1) | exact HB.out)⟩⟩
    · rw [if_neg c7] at H
      have c7b0 : decide (16 < (l0.length : Int)) = false := decide_eq_false c7
      have c7b1 : decide (16 < l0.length) = false := decide_eq_false (by omega)
      clear c7
      (first | rw [c7b0] | (simp only [i64_w, i32_w]; rw [c7b0]) | skip)
      by_cases c8 : (l3.length : Int) > 40
      · rw [if_pos c8] at H
        have c8b0 : decide (40 < (l3.length : Int)) = true := decide_eq_true c8
        have c8b1 : decide (40 < l3.length) = true := decide_eq_true (by omega)
        clear c8
        have H' := Aside0.mk H
        clear H
        go_wp2
        repeat (go_quiet (fail); try go_wp2)
        go_meet
        case rel => exact ⟨_, (true), (by first | rfl | (simp; done) | (simp [*]; done)), H', ⟨by first | omega | exact Nat.le_refl _⟩, ⟨by repeat (first | (with_reducible first | exact HB.out | apply below_alloc | apply pw_below_drewN | apply below_drew1) | exact HB.out)⟩⟩
      · rw [if_neg c8] at H
        have c8b0 : decide (40 < (l3.length : Int)) = false := decide_eq_false c8
        have c8b1 : decide (40 < l3.length) = false := decide_eq_false (by omega)
        clear c8
        by_cases c9 : (l1.length : Int) > 100
        · rw [if_pos c9] at H
          have c9b0 : decide (100 < (l1.length : Int)) = true := decide_eq_true c9
          have c9b1 : decide (100 < l1.length) = true := decide_eq_true (by omega)
          clear c9
          have H' := Aside0.mk H
          clear H
          go_wp2
          repeat (go_quiet (fail); try go_wp2)
          go_meet
          case rel => exact ⟨_, (true), (by first | rfl | (simp; done) | (simp [*]; done)), H', ⟨by first | omega | exact Nat.le_refl _⟩, ⟨by repeat (first | (with_reducible first | exact HB.out | apply below_alloc | apply pw_below_drewN | apply below_drew1) | exact HB.out)⟩⟩
        · rw [if_neg c9] at H
          have c9b0 : decide (100 < (l1.length : Int)) = false := decide_eq_false c9
          have c9b1 : decide (100 < l1.length) = false := decide_eq_false (by omega)
          clear c9
          have H' := Aside0.mk H
          clear H
          go_wp2
          repeat (go_quiet (fail); try go_wp2)
          go_meet
          case rel => exact ⟨_, (decide ((l4.length : Int) > 20)), (by first | rfl | (simp; done) | (simp [*]; done)), H', ⟨by first | omega | exact Nat.le_refl _⟩, ⟨by repeat (first | (with_reducible first | exact HB.out | apply below_alloc | apply pw_below_drewN | apply below_drew1) | exact HB.out)⟩⟩
  case rest =>
    clear HC6
    try clear c1
    try clear p2
    try clear c3
    try clear c4
    try clear c6
    try clear c7
    try clear c7b0
    try clear c7b1
    try clear c8
    try clear c8b0
    try clear c8b1
    try clear c9
    try clear c9b0
    try clear c9b1
    obtain ⟨kq, x37_5, rfl, HA, HJ5, HB⟩ := hcut
    cases kq with
    | zero => exact absurd HA.out (by simp [vesperslaw21_BestMost.j0])
    | succ kj5 =>
      have H := HA.out
      clear HA
      simp only [vesperslaw21_BestMost.j0] at H
      by_cases c10 : x37_5 = true
      · subst c10
        have H1 : ((vesperslaw21_fixed.f).bind fun t237 => (some t237)) = some r := by rw [if_pos rfl] at H; exact H
        clear H
        have H := H1
        clear H1
        replace H := Option.bind_eq_some_iff.mp H
        obtain ⟨t237, A110, H⟩ := H
        replace H : (some t237) = some r := H
        have A11 := Aside0.mk A110
        clear A110
        obtain rfl := Option.some.inj H
        go_wp2_with (first | (go_at_call 7; (with_reducible refine (vesperslaw21_fixed.calls  t237 _ A11.out).mono ?_); rintro e w12 ⟨rfl, hb⟩; have n0_ := Aside0.mk (below_step (by repeat (first | (with_reducible first | exact HB.out | apply below_alloc | apply pw_below_drewN | apply below_drew1) | exact HB.out)) hb); clear HB; have HB := n0_; clear n0_; (try clear hb); (try clear hb2); (try clear hk); (try clear hi)))
        repeat (go_quiet (first | (go_at_call 7; (with_reducible refine (vesperslaw21_fixed.calls  t237 _ A11.out).mono ?_); rintro e w12 ⟨rfl, hb⟩; have n0_ := Aside0.mk (below_step (by repeat (first | (with_reducible first | exact HB.out | apply below_alloc | apply pw_below_drewN | apply below_drew1) | exact HB.out)) hb); clear HB; have HB := n0_; clear n0_; (try clear hb); (try clear hb2); (try clear hk); (try clear hi))); try go_wp2_with (first | (go_at_call 7; (with_reducible refine (vesperslaw21_fixed.calls  t237 _ A11.out).mono ?_); rintro e w12 ⟨rfl, hb⟩; have n0_ := Aside0.mk (below_step (by repeat (first | (with_reducible first | exact HB.out | apply below_alloc | apply pw_below_drewN | apply below_drew1) | exact HB.out)) hb); clear HB; have HB := n0_; clear n0_; (try clear hb); (try clear hb2); (try clear hk); (try clear hi))))
        go_ret
        exact ⟨by first | rfl | (simp [errW_none, errW_some] <;> rfl) | (simp [*, errW_none, errW_some] <;> rfl) | (simp only [IntWalk.i64_left]; rfl), by repeat (first | (with_reducible first | exact HB.out | apply below_alloc | apply pw_below_drewN | apply below_drew1) | exact HB.out)⟩
      · replace c10 := Bool.eq_false_iff.mpr c10
        subst c10
        have H1 : ((best_May.f l0 l1 a2 l3 l4).bind fun t238 => ((vespersref21_May.f kj5 l0 l1 a2 l3 l4).bind fun t239 => (if (t238 != t239) = true then (some false) else ((best_Choose.f l0 l1 a2 l3).bind fun bt240 => (vesperslaw21_BestMost.l0 kj5 l0 l1 a2 t238 0 l4 (l4.length : Int) 0 bt240.1 bt240.2.1 bt240.2.2))))) = some r := by rw [if_neg (show ¬ (false = true) by decide)] at H; exact H
        clear H
        have H := H1
        clear H1
        replace H := Option.bind_eq_some_iff.mp H
        obtain ⟨t238, A130, H⟩ := H
        replace H : ((vespersref21_May.f kj5 l0 l1 a2 l3 l4).bind fun t239 => (if (t238 != t239) = true then (some false) else ((best_Choose.f l0 l1 a2 l3).bind fun bt240 => (vesperslaw21_BestMost.l0 kj5 l0 l1 a2 t238 0 l4 (l4.length : Int) 0 bt240.1 bt240.2.1 bt240.2.2)))) = some r := H
        have A13 := Aside0.mk A130
        clear A130
        replace H := Option.bind_eq_some_iff.mp H
        obtain ⟨t239, A140, H⟩ := H
        replace H : (if (t238 != t239) = true then (some false) else ((best_Choose.f l0 l1 a2 l3).bind fun bt240 => (vesperslaw21_BestMost.l0 kj5 l0 l1 a2 t238 0 l4 (l4.length : Int) 0 bt240.1 bt240.2.1 bt240.2.2))) = some r := H
        have A14 := Aside0.mk A140
        clear A140
        by_cases c15 : (t238 != t239) = true
        · rw [if_pos c15] at H
          have c15b0 : (t238 != t239) = true := c15
          (try (have c15b1 : decide (t238 = t239) = false := by simpa using c15))
          (try (have c15b2 : (t238 == t239) = false := by simpa using c15))
          (try (have c15b3 : ¬ (t238 = t239) := by simpa using c15))
          clear c15
          obtain rfl := Option.some.inj H
          go_wp2_with (first | (go_at_call 9; (with_reducible refine (best_May.calls _ _ l0 _ _ l1 a2 _ _ l3 _ _ l4 t238 _ ?side1 ?side2 ?side3 ?side4 ?side5 ?side6 ?side7 ?side8 A13.out).mono ?_); (case side1 => repeat (first | exact (Kd.C_below HR0.out HB.out) | (with_reducible refine Kd.C_alloc ?_ _) | (with_reducible refine Kd.C_drewN ?_ _) | (with_reducible refine Kd.C_drew ?_))); (case side2 => exact HC0.out); (case side3 => repeat (first | exact (Kd.C_below HR1.out HB.out) | (with_reducible refine Kd.C_alloc ?_ _) | (with_reducible refine Kd.C_drewN ?_ _) | (with_reducible refine Kd.C_drew ?_))); (case side4 => exact HC1.out); (case side5 => repeat (first | exact (Kd.C_below HR3.out HB.out) | (with_reducible refine Kd.C_alloc ?_ _) | (with_reducible refine Kd.C_drewN ?_ _) | (with_reducible refine Kd.C_drew ?_))); (case side6 => exact HC3.out); (case side7 => repeat (first | exact (Kd.C_below HR4.out HB.out) | (with_reducible refine Kd.C_alloc ?_ _) | (with_reducible refine Kd.C_drewN ?_ _) | (with_reducible refine Kd.C_drew ?_))); (case side8 => exact HC4.out); rintro e w16 ⟨rfl, hb⟩; have n0_ := Aside0.mk (below_step (by repeat (first | (with_reducible first | exact HB.out | apply below_alloc | apply pw_below_drewN | apply below_drew1) | exact HB.out)) hb); clear HB; have HB := n0_; clear n0_; (try clear hb); (try clear hb2); (try clear hk); (try clear hi)) | (go_at_call 10; (with_reducible refine (vespersref21_May.calls kj5 _ _ l0 _ _ l1 a2 _ _ l3 _ _ l4 t239 _ ?side1 ?side2 ?side3 ?side4 ?side5 ?side6 ?side7 ?side8 A14.out).mono ?_); (case side1 => repeat (first | exact (Kd.C_below HR0.out HB.out) | (with_reducible refine Kd.C_alloc ?_ _) | (with_reducible refine Kd.C_drewN ?_ _) | (with_reducible refine Kd.C_drew ?_))); (case side2 => exact HC0.out); (case side3 => repeat (first | exact (Kd.C_below HR1.out HB.out) | (with_reducible refine Kd.C_alloc ?_ _) | (with_reducible refine Kd.C_drewN ?_ _) | (with_reducible refine Kd.C_drew ?_))); (case side4 => exact HC1.out); (case side5 => repeat (first | exact (Kd.C_below HR3.out HB.out) | (with_reducible refine Kd.C_alloc ?_ _) | (with_reducible refine Kd.C_drewN ?_ _) | (with_reducible refine Kd.C_drew ?_))); (case side6 => exact HC3.out); (case side7 => repeat (first | exact (Kd.C_below HR4.out HB.out) | (with_reducible refine Kd.C_alloc ?_ _) | (with_reducible refine Kd.C_drewN ?_ _) | (with_reducible refine Kd.C_drew ?_))); (case side8 => exact HC4.out); rintro e w' ⟨rfl, ⟨nd, rfl⟩⟩; (try first | exact ⟨rfl, _, World.drewN_drewN _ _ _⟩ | exact ⟨rfl, _, Eq.trans (World.drewN_drewN _ _ _) (congrArg (World.drewN _) (Nat.add_assoc _ _ _))⟩)))
          repeat (go_quiet (first | (go_at_call 9; (with_reducible refine (best_May.calls _ _ l0 _ _ l1 a2 _ _ l3 _ _ l4 t238 _ ?side1 ?side2 ?side3 ?side4 ?side5 ?side6 ?side7 ?side8 A13.out).mono ?_); (case side1 => repeat (first | exact (Kd.C_below HR0.out HB.out) | (with_reducible refine Kd.C_alloc ?_ _) | (with_reducible refine Kd.C_drewN ?_ _) | (with_reducible refine Kd.C_drew ?_))); (case side2 => exact HC0.out); (case side3 => repeat (first | exact (Kd.C_below HR1.out HB.out) | (with_reducible refine Kd.C_alloc ?_ _) | (with_reducible refine Kd.C_drewN ?_ _) | (with_reducible refine Kd.C_drew ?_))); (case side4 => exact HC1.out); (case side5 => repeat (first | exact (Kd.C_below HR3.out HB.out) | (with_reducible refine Kd.C_alloc ?_ _) | (with_reducible refine Kd.C_drewN ?_ _) | (with_reducible refine Kd.C_drew ?_))); (case side6 => exact HC3.out); (case side7 => repeat (first | exact (Kd.C_below HR4.out HB.out) | (with_reducible refine Kd.C_alloc ?_ _) | (with_reducible refine Kd.C_drewN ?_ _) | (with_reducible refine Kd.C_drew ?_))); (case side8 => exact HC4.out); rintro e w16 ⟨rfl, hb⟩; have n0_ := Aside0.mk (below_step (by repeat (first | (with_reducible first | exact HB.out | apply below_alloc | apply pw_below_drewN | apply below_drew1) | exact HB.out)) hb); clear HB; have HB := n0_; clear n0_; (try clear hb); (try clear hb2); (try clear hk); (try clear hi)) | (go_at_call 10; (with_reducible refine (vespersref21_May.calls kj5 _ _ l0 _ _ l1 a2 _ _ l3 _ _ l4 t239 _ ?side1 ?side2 ?side3 ?side4 ?side5 ?side6 ?side7 ?side8 A14.out).mono ?_); (case side1 => repeat (first | exact (Kd.C_below HR0.out HB.out) | (with_reducible refine Kd.C_alloc ?_ _) | (with_reducible refine Kd.C_drewN ?_ _) | (with_reducible refine Kd.C_drew ?_))); (case side2 => exact HC0.out); (case side3 => repeat (first | exact (Kd.C_below HR1.out HB.out) | (with_reducible refine Kd.C_alloc ?_ _) | (with_reducible refine Kd.C_drewN ?_ _) | (with_reducible refine Kd.C_drew ?_))); (case side4 => exact HC1.out); (case side5 => repeat (first | exact (Kd.C_below HR3.out HB.out) | (with_reducible refine Kd.C_alloc ?_ _) | (with_reducible refine Kd.C_drewN ?_ _) | (with_reducible refine Kd.C_drew ?_))); (case side6 => exact HC3.out); (case side7 => repeat (first | exact (Kd.C_below HR4.out HB.out) | (with_reducible refine Kd.C_alloc ?_ _) | (with_reducible refine Kd.C_drewN ?_ _) | (with_reducible refine Kd.C_drew ?_))); (case side8 => exact HC4.out); rintro e w' ⟨rfl, ⟨nd, rfl⟩⟩; (try first | exact ⟨rfl, _, World.drewN_drewN _ _ _⟩ | exact ⟨rfl, _, Eq.trans (World.drewN_drewN _ _ _) (congrArg (World.drewN _) (Nat.add_assoc _ _ _))⟩))); try go_wp2_with (first | (go_at_call 9; (with_reducible refine (best_May.calls _ _ l0 _ _ l1 a2 _ _ l3 _ _ l4 t238 _ ?side1 ?side2 ?side3 ?side4 ?side5 ?side6 ?side7 ?side8 A13.out).mono ?_); (case side1 => repeat (first | exact (Kd.C_below HR0.out HB.out) | (with_reducible refine Kd.C_alloc ?_ _) | (with_reducible refine Kd.C_drewN ?_ _) | (with_reducible refine Kd.C_drew ?_))); (case side2 => exact HC0.out); (case side3 => repeat (first | exact (Kd.C_below HR1.out HB.out) | (with_reducible refine Kd.C_alloc ?_ _) | (with_reducible refine Kd.C_drewN ?_ _) | (with_reducible refine Kd.C_drew ?_))); (case side4 => exact HC1.out); (case side5 => repeat (first | exact (Kd.C_below HR3.out HB.out) | (with_reducible refine Kd.C_alloc ?_ _) | (with_reducible refine Kd.C_drewN ?_ _) | (with_reducible refine Kd.C_drew ?_))); (case side6 => exact HC3.out); (case side7 => repeat (first | exact (Kd.C_below HR4.out HB.out) | (with_reducible refine Kd.C_alloc ?_ _) | (with_reducible refine Kd.C_drewN ?_ _) | (with_reducible refine Kd.C_drew ?_))); (case side8 => exact HC4.out); rintro e w16 ⟨rfl, hb⟩; have n0_ := Aside0.mk (below_step (by repeat (first | (with_reducible first | exact HB.out | apply below_alloc | apply pw_below_drewN | apply below_drew1) | exact HB.out)) hb); clear HB; have HB := n0_; clear n0_; (try clear hb); (try clear hb2); (try clear hk); (try clear hi)) | (go_at_call 10; (with_reducible refine (vespersref21_May.calls kj5 _ _ l0 _ _ l1 a2 _ _ l3 _ _ l4 t239 _ ?side1 ?side2 ?side3 ?side4 ?side5 ?side6 ?side7 ?side8 A14.out).mono ?_); (case side1 => repeat (first | exact (Kd.C_below HR0.out HB.out) | (with_reducible refine Kd.C_alloc ?_ _) | (with_reducible refine Kd.C_drewN ?_ _) | (with_reducible refine Kd.C_drew ?_))); (case side2 => exact HC0.out); (case side3 => repeat (first | exact (Kd.C_below HR1.out HB.out) | (with_reducible refine Kd.C_alloc ?_ _) | (with_reducible refine Kd.C_drewN ?_ _) | (with_reducible refine Kd.C_drew ?_))); (case side4 => exact HC1.out); (case side5 => repeat (first | exact (Kd.C_below HR3.out HB.out) | (with_reducible refine Kd.C_alloc ?_ _) | (with_reducible refine Kd.C_drewN ?_ _) | (with_reducible refine Kd.C_drew ?_))); (case side6 => exact HC3.out); (case side7 => repeat (first | exact (Kd.C_below HR4.out HB.out) | (with_reducible refine Kd.C_alloc ?_ _) | (with_reducible refine Kd.C_drewN ?_ _) | (with_reducible refine Kd.C_drew ?_))); (case side8 => exact HC4.out); rintro e w' ⟨rfl, ⟨nd, rfl⟩⟩; (try first | exact ⟨rfl, _, World.drewN_drewN _ _ _⟩ | exact ⟨rfl, _, Eq.trans (World.drewN_drewN _ _ _) (congrArg (World.drewN _) (Nat.add_assoc _ _ _))⟩))))
          go_ret
          exact ⟨by first | rfl | (simp [errW_none, errW_some] <;> rfl) | (simp [*, errW_none, errW_some] <;> rfl) | (simp only [IntWalk.i64_left]; rfl), by repeat (first | (with_reducible first | exact HB.out | apply below_alloc | apply pw_below_drewN | apply below_drew1) | exact HB.out)⟩
        · rw [if_neg c15] at H
          have c15b0 : (t238 != t239) = false := by simpa using c15
          (try (have c15b1 : decide (t238 = t239) = true := by simpa using c15))
          (try (have c15b2 : (t238 == t239) = true := by simpa using c15))
          clear c15
          replace H := Option.bind_eq_some_iff.mp H
          obtain ⟨⟨t240, t241, t244⟩, A170, H⟩ := H
          replace H : (vesperslaw21_BestMost.l0 kj5 l0 l1 a2 t238 0 l4 (l4.length : Int) 0 t240 t241 t244) = some r := H
          have A17 := Aside0.mk A170
          clear A170
          have H' := Aside0.mk H
          clear H
          go_wp2_with (first | (go_at_call 9; (with_reducible refine (best_May.calls _ _ l0 _ _ l1 a2 _ _ l3 _ _ l4 t238 _ ?side1 ?side2 ?side3 ?side4 ?side5 ?side6 ?side7 ?side8 A13.out).mono ?_); (case side1 => repeat (first | exact (Kd.C_below HR0.out HB.out) | (with_reducible refine Kd.C_alloc ?_ _) | (with_reducible refine Kd.C_drewN ?_ _) | (with_reducible refine Kd.C_drew ?_))); (case side2 => exact HC0.out); (case side3 => repeat (first | exact (Kd.C_below HR1.out HB.out) | (with_reducible refine Kd.C_alloc ?_ _) | (with_reducible refine Kd.C_drewN ?_ _) | (with_reducible refine Kd.C_drew ?_))); (case side4 => exact HC1.out); (case side5 => repeat (first | exact (Kd.C_below HR3.out HB.out) | (with_reducible refine Kd.C_alloc ?_ _) | (with_reducible refine Kd.C_drewN ?_ _) | (with_reducible refine Kd.C_drew ?_))); (case side6 => exact HC3.out); (case side7 => repeat (first | exact (Kd.C_below HR4.out HB.out) | (with_reducible refine Kd.C_alloc ?_ _) | (with_reducible refine Kd.C_drewN ?_ _) | (with_reducible refine Kd.C_drew ?_))); (case side8 => exact HC4.out); rintro e w18 ⟨rfl, hb⟩; have n0_ := Aside0.mk (below_step (by repeat (first | (with_reducible first | exact HB.out | apply below_alloc | apply pw_below_drewN | apply below_drew1) | exact HB.out)) hb); clear HB; have HB := n0_; clear n0_; (try clear hb); (try clear hb2); (try clear hk); (try clear hi)) | (go_at_call 10; (with_reducible refine (vespersref21_May.calls kj5 _ _ l0 _ _ l1 a2 _ _ l3 _ _ l4 t239 _ ?side1 ?side2 ?side3 ?side4 ?side5 ?side6 ?side7 ?side8 A14.out).mono ?_); (case side1 => repeat (first | exact (Kd.C_below HR0.out HB.out) | (with_reducible refine Kd.C_alloc ?_ _) | (with_reducible refine Kd.C_drewN ?_ _) | (with_reducible refine Kd.C_drew ?_))); (case side2 => exact HC0.out); (case side3 => repeat (first | exact (Kd.C_below HR1.out HB.out) | (with_reducible refine Kd.C_alloc ?_ _) | (with_reducible refine Kd.C_drewN ?_ _) | (with_reducible refine Kd.C_drew ?_))); (case side4 => exact HC1.out); (case side5 => repeat (first | exact (Kd.C_below HR3.out HB.out) | (with_reducible refine Kd.C_alloc ?_ _) | (with_reducible refine Kd.C_drewN ?_ _) | (with_reducible refine Kd.C_drew ?_))); (case side6 => exact HC3.out); (case side7 => repeat (first | exact (Kd.C_below HR4.out HB.out) | (with_reducible refine Kd.C_alloc ?_ _) | (with_reducible refine Kd.C_drewN ?_ _) | (with_reducible refine Kd.C_drew ?_))); (case side8 => exact HC4.out); rintro e w' ⟨rfl, ⟨nd, rfl⟩⟩; (try first | exact ⟨rfl, _, World.drewN_drewN _ _ _⟩ | exact ⟨rfl, _, Eq.trans (World.drewN_drewN _ _ _) (congrArg (World.drewN _) (Nat.add_assoc _ _ _))⟩)) | (go_at_call 8; (with_reducible refine (best_Choose.calls _ _ l0 _ _ l1 a2 _ _ l3 t240 t241 t244 _ ?side1 ?side2 ?side3 ?side4 ?side5 ?side6 A17.out).mono ?_); (case side1 => repeat (first | exact (Kd.C_below HR0.out (by repeat (first | (with_reducible first | exact HB.out | apply below_alloc | apply pw_below_drewN | apply below_drew1) | exact HB.out))) | (with_reducible refine Kd.C_alloc ?_ _) | (with_reducible refine Kd.C_drewN ?_ _) | (with_reducible refine Kd.C_drew ?_))); (case side2 => exact HC0.out); (case side3 => repeat (first | exact (Kd.C_below HR1.out (by repeat (first | (with_reducible first | exact HB.out | apply below_alloc | apply pw_below_drewN | apply below_drew1) | exact HB.out))) | (with_reducible refine Kd.C_alloc ?_ _) | (with_reducible refine Kd.C_drewN ?_ _) | (with_reducible refine Kd.C_drew ?_))); (case side4 => exact HC1.out); (case side5 => repeat (first | exact (Kd.C_below HR3.out (by repeat (first | (with_reducible first | exact HB.out | apply below_alloc | apply pw_below_drewN | apply below_drew1) | exact HB.out))) | (with_reducible refine Kd.C_alloc ?_ _) | (with_reducible refine Kd.C_drewN ?_ _) | (with_reducible refine Kd.C_drew ?_))); (case side6 => exact HC3.out); rintro e w19 ⟨v242, rfl, ho0, hb⟩; have n0_ := Aside0.mk (Kd.R_lower ho0 (below_size (by repeat (first | (with_reducible first | exact HB.out | apply below_alloc | apply pw_below_drewN | apply below_drew1) | exact HB.out)))); have n1_ := Aside0.mk (below_step (by repeat (first | (with_reducible first | exact HB.out | apply below_alloc | apply pw_below_drewN | apply below_drew1) | exact HB.out)) hb); clear HB; have HO243 := n0_; have HB := n1_; clear n0_ n1_; (try clear hb); (try clear hb2); (try clear hk); (try clear hi); (try clear ho0)) | ((with_reducible refine gate_dst (N := 12) rfl ?_); (try (refine gate_guard (by rfl) ?_; dsimp only)); refine box_event ?hg (N := 12) ?hd (cs := #[.int .i64 0, .slice none 0 0, .int .i64 0]) (t := 28) ?hr ?_; (case hd => rfl); (case hg => rfl); (case hr => first | (go_simp; done) | (go_simp; rfl)); intro gb245 hg w20 hbox hb; have n0_ := Aside0.mk (Kd.R_below (by (with_reducible repeat (first | apply Kd.R_alloc | apply Kd.R_drewN | apply Kd.R_drew)); exact HO243.out) hb); have n1_ := Aside0.mk (below_step (by repeat (first | (with_reducible first | exact HB.out | apply below_alloc | apply pw_below_drewN | apply below_drew1) | exact HB.out)) hb); have n2_ := Aside0.mk (hbox); have n3_ := Aside0.mk ((by rw [hg]; exact (below_size (by repeat (first | (with_reducible first | exact HB.out | apply below_alloc | apply pw_below_drewN | apply below_drew1) | exact HB.out))) : w.heap.size ≤ gb245)); have n4_ := Aside0.mk ((by rw [hg]; exact (below_size (by repeat (first | (with_reducible first | exact HB.out | apply below_alloc | apply pw_below_drewN | apply below_drew1) | exact HB.out))) : w.heap.size ≤ gb245)); clear HO243; clear HB; have HO243 := n0_; have HB := n1_; have BK245 := n2_; have GW245 := n3_; have GE245 := n4_; clear n0_ n1_ n2_ n3_ n4_; clear hb hbox hg; have hcz21_0 : w20.cell? ⟨gb245, 0, none⟩ = some (.int .i64 0) := (blk_cell BK245.out 0).trans rfl; have hcz21_1 : w20.cell? ⟨gb245, 1, none⟩ = some (.slice none 0 0) := (blk_cell BK245.out 1).trans rfl; have hcz21_2 : w20.cell? ⟨gb245, 2, none⟩ = some (.int .i64 0) := (blk_cell BK245.out 2).trans rfl; have hfz21_0 := blk_frozen BK245.out 0; have hfz21_1 := blk_frozen BK245.out 1; have hfz21_2 := blk_frozen BK245.out 2; obtain ⟨Ao22, co22, eo22⟩ := Kd.R_slice HO243.out; subst eo22))
          repeat (go_quiet (first | (go_at_call 9; (with_reducible refine (best_May.calls _ _ l0 _ _ l1 a2 _ _ l3 _ _ l4 t238 _ ?side1 ?side2 ?side3 ?side4 ?side5 ?side6 ?side7 ?side8 A13.out).mono ?_); (case side1 => repeat (first | exact (Kd.C_below HR0.out HB.out) | (with_reducible refine Kd.C_alloc ?_ _) | (with_reducible refine Kd.C_drewN ?_ _) | (with_reducible refine Kd.C_drew ?_))); (case side2 => exact HC0.out); (case side3 => repeat (first | exact (Kd.C_below HR1.out HB.out) | (with_reducible refine Kd.C_alloc ?_ _) | (with_reducible refine Kd.C_drewN ?_ _) | (with_reducible refine Kd.C_drew ?_))); (case side4 => exact HC1.out); (case side5 => repeat (first | exact (Kd.C_below HR3.out HB.out) | (with_reducible refine Kd.C_alloc ?_ _) | (with_reducible refine Kd.C_drewN ?_ _) | (with_reducible refine Kd.C_drew ?_))); (case side6 => exact HC3.out); (case side7 => repeat (first | exact (Kd.C_below HR4.out HB.out) | (with_reducible refine Kd.C_alloc ?_ _) | (with_reducible refine Kd.C_drewN ?_ _) | (with_reducible refine Kd.C_drew ?_))); (case side8 => exact HC4.out); rintro e w18 ⟨rfl, hb⟩; have n0_ := Aside0.mk (below_step (by repeat (first | (with_reducible first | exact HB.out | apply below_alloc | apply pw_below_drewN | apply below_drew1) | exact HB.out)) hb); clear HB; have HB := n0_; clear n0_; (try clear hb); (try clear hb2); (try clear hk); (try clear hi)) | (go_at_call 10; (with_reducible refine (vespersref21_May.calls kj5 _ _ l0 _ _ l1 a2 _ _ l3 _ _ l4 t239 _ ?side1 ?side2 ?side3 ?side4 ?side5 ?side6 ?side7 ?side8 A14.out).mono ?_); (case side1 => repeat (first | exact (Kd.C_below HR0.out HB.out) | (with_reducible refine Kd.C_alloc ?_ _) | (with_reducible refine Kd.C_drewN ?_ _) | (with_reducible refine Kd.C_drew ?_))); (case side2 => exact HC0.out); (case side3 => repeat (first | exact (Kd.C_below HR1.out HB.out) | (with_reducible refine Kd.C_alloc ?_ _) | (with_reducible refine Kd.C_drewN ?_ _) | (with_reducible refine Kd.C_drew ?_))); (case side4 => exact HC1.out); (case side5 => repeat (first | exact (Kd.C_below HR3.out HB.out) | (with_reducible refine Kd.C_alloc ?_ _) | (with_reducible refine Kd.C_drewN ?_ _) | (with_reducible refine Kd.C_drew ?_))); (case side6 => exact HC3.out); (case side7 => repeat (first | exact (Kd.C_below HR4.out HB.out) | (with_reducible refine Kd.C_alloc ?_ _) | (with_reducible refine Kd.C_drewN ?_ _) | (with_reducible refine Kd.C_drew ?_))); (case side8 => exact HC4.out); rintro e w' ⟨rfl, ⟨nd, rfl⟩⟩; (try first | exact ⟨rfl, _, World.drewN_drewN _ _ _⟩ | exact ⟨rfl, _, Eq.trans (World.drewN_drewN _ _ _) (congrArg (World.drewN _) (Nat.add_assoc _ _ _))⟩)) | (go_at_call 8; (with_reducible refine (best_Choose.calls _ _ l0 _ _ l1 a2 _ _ l3 t240 t241 t244 _ ?side1 ?side2 ?side3 ?side4 ?side5 ?side6 A17.out).mono ?_); (case side1 => repeat (first | exact (Kd.C_below HR0.out (by repeat (first | (with_reducible first | exact HB.out | apply below_alloc | apply pw_below_drewN | apply below_drew1) | exact HB.out))) | (with_reducible refine Kd.C_alloc ?_ _) | (with_reducible refine Kd.C_drewN ?_ _) | (with_reducible refine Kd.C_drew ?_))); (case side2 => exact HC0.out); (case side3 => repeat (first | exact (Kd.C_below HR1.out (by repeat (first | (with_reducible first | exact HB.out | apply below_alloc | apply pw_below_drewN | apply below_drew1) | exact HB.out))) | (with_reducible refine Kd.C_alloc ?_ _) | (with_reducible refine Kd.C_drewN ?_ _) | (with_reducible refine Kd.C_drew ?_))); (case side4 => exact HC1.out); (case side5 => repeat (first | exact (Kd.C_below HR3.out (by repeat (first | (with_reducible first | exact HB.out | apply below_alloc | apply pw_below_drewN | apply below_drew1) | exact HB.out))) | (with_reducible refine Kd.C_alloc ?_ _) | (with_reducible refine Kd.C_drewN ?_ _) | (with_reducible refine Kd.C_drew ?_))); (case side6 => exact HC3.out); rintro e w19 ⟨v242, rfl, ho0, hb⟩; have n0_ := Aside0.mk (Kd.R_lower ho0 (below_size (by repeat (first | (with_reducible first | exact HB.out | apply below_alloc | apply pw_below_drewN | apply below_drew1) | exact HB.out)))); have n1_ := Aside0.mk (below_step (by repeat (first | (with_reducible first | exact HB.out | apply below_alloc | apply pw_below_drewN | apply below_drew1) | exact HB.out)) hb); clear HB; have HO243 := n0_; have HB := n1_; clear n0_ n1_; (try clear hb); (try clear hb2); (try clear hk); (try clear hi); (try clear ho0)) | ((with_reducible refine gate_dst (N := 12) rfl ?_); (try (refine gate_guard (by rfl) ?_; dsimp only)); refine box_event ?hg (N := 12) ?hd (cs := #[.int .i64 0, .slice none 0 0, .int .i64 0]) (t := 28) ?hr ?_; (case hd => rfl); (case hg => rfl); (case hr => first | (go_simp; done) | (go_simp; rfl)); intro gb245 hg w20 hbox hb; have n0_ := Aside0.mk (Kd.R_below (by (with_reducible repeat (first | apply Kd.R_alloc | apply Kd.R_drewN | apply Kd.R_drew)); exact HO243.out) hb); have n1_ := Aside0.mk (below_step (by repeat (first | (with_reducible first | exact HB.out | apply below_alloc | apply pw_below_drewN | apply below_drew1) | exact HB.out)) hb); have n2_ := Aside0.mk (hbox); have n3_ := Aside0.mk ((by rw [hg]; exact (below_size (by repeat (first | (with_reducible first | exact HB.out | apply below_alloc | apply pw_below_drewN | apply below_drew1) | exact HB.out))) : w.heap.size ≤ gb245)); have n4_ := Aside0.mk ((by rw [hg]; exact (below_size (by repeat (first | (with_reducible first | exact HB.out | apply below_alloc | apply pw_below_drewN | apply below_drew1) | exact HB.out))) : w.heap.size ≤ gb245)); clear HO243; clear HB; have HO243 := n0_; have HB := n1_; have BK245 := n2_; have GW245 := n3_; have GE245 := n4_; clear n0_ n1_ n2_ n3_ n4_; clear hb hbox hg; have hcz21_0 : w20.cell? ⟨gb245, 0, none⟩ = some (.int .i64 0) := (blk_cell BK245.out 0).trans rfl; have hcz21_1 : w20.cell? ⟨gb245, 1, none⟩ = some (.slice none 0 0) := (blk_cell BK245.out 1).trans rfl; have hcz21_2 : w20.cell? ⟨gb245, 2, none⟩ = some (.int .i64 0) := (blk_cell BK245.out 2).trans rfl; have hfz21_0 := blk_frozen BK245.out 0; have hfz21_1 := blk_frozen BK245.out 1; have hfz21_2 := blk_frozen BK245.out 2; obtain ⟨Ao22, co22, eo22⟩ := Kd.R_slice HO243.out; subst eo22)); try go_wp2_with (first | (go_at_call 9; (with_reducible refine (best_May.calls _ _ l0 _ _ l1 a2 _ _ l3 _ _ l4 t238 _ ?side1 ?side2 ?side3 ?side4 ?side5 ?side6 ?side7 ?side8 A13.out).mono ?_); (case side1 => repeat (first | exact (Kd.C_below HR0.out HB.out) | (with_reducible refine Kd.C_alloc ?_ _) | (with_reducible refine Kd.C_drewN ?_ _) | (with_reducible refine Kd.C_drew ?_))); (case side2 => exact HC0.out); (case side3 => repeat (first | exact (Kd.C_below HR1.out HB.out) | (with_reducible refine Kd.C_alloc ?_ _) | (with_reducible refine Kd.C_drewN ?_ _) | (with_reducible refine Kd.C_drew ?_))); (case side4 => exact HC1.out); (case side5 => repeat (first | exact (Kd.C_below HR3.out HB.out) | (with_reducible refine Kd.C_alloc ?_ _) | (with_reducible refine Kd.C_drewN ?_ _) | (with_reducible refine Kd.C_drew ?_))); (case side6 => exact HC3.out); (case side7 => repeat (first | exact (Kd.C_below HR4.out HB.out) | (with_reducible refine Kd.C_alloc ?_ _) | (with_reducible refine Kd.C_drewN ?_ _) | (with_reducible refine Kd.C_drew ?_))); (case side8 => exact HC4.out); rintro e w18 ⟨rfl, hb⟩; have n0_ := Aside0.mk (below_step (by repeat (first | (with_reducible first | exact HB.out | apply below_alloc | apply pw_below_drewN | apply below_drew1) | exact HB.out)) hb); clear HB; have HB := n0_; clear n0_; (try clear hb); (try clear hb2); (try clear hk); (try clear hi)) | (go_at_call 10; (with_reducible refine (vespersref21_May.calls kj5 _ _ l0 _ _ l1 a2 _ _ l3 _ _ l4 t239 _ ?side1 ?side2 ?side3 ?side4 ?side5 ?side6 ?side7 ?side8 A14.out).mono ?_); (case side1 => repeat (first | exact (Kd.C_below HR0.out HB.out) | (with_reducible refine Kd.C_alloc ?_ _) | (with_reducible refine Kd.C_drewN ?_ _) | (with_reducible refine Kd.C_drew ?_))); (case side2 => exact HC0.out); (case side3 => repeat (first | exact (Kd.C_below HR1.out HB.out) | (with_reducible refine Kd.C_alloc ?_ _) | (with_reducible refine Kd.C_drewN ?_ _) | (with_reducible refine Kd.C_drew ?_))); (case side4 => exact HC1.out); (case side5 => repeat (first | exact (Kd.C_below HR3.out HB.out) | (with_reducible refine Kd.C_alloc ?_ _) | (with_reducible refine Kd.C_drewN ?_ _) | (with_reducible refine Kd.C_drew ?_))); (case side6 => exact HC3.out); (case side7 => repeat (first | exact (Kd.C_below HR4.out HB.out) | (with_reducible refine Kd.C_alloc ?_ _) | (with_reducible refine Kd.C_drewN ?_ _) | (with_reducible refine Kd.C_drew ?_))); (case side8 => exact HC4.out); rintro e w' ⟨rfl, ⟨nd, rfl⟩⟩; (try first | exact ⟨rfl, _, World.drewN_drewN _ _ _⟩ | exact ⟨rfl, _, Eq.trans (World.drewN_drewN _ _ _) (congrArg (World.drewN _) (Nat.add_assoc _ _ _))⟩)) | (go_at_call 8; (with_reducible refine (best_Choose.calls _ _ l0 _ _ l1 a2 _ _ l3 t240 t241 t244 _ ?side1 ?side2 ?side3 ?side4 ?side5 ?side6 A17.out).mono ?_); (case side1 => repeat (first | exact (Kd.C_below HR0.out (by repeat (first | (with_reducible first | exact HB.out | apply below_alloc | apply pw_below_drewN | apply below_drew1) | exact HB.out))) | (with_reducible refine Kd.C_alloc ?_ _) | (with_reducible refine Kd.C_drewN ?_ _) | (with_reducible refine Kd.C_drew ?_))); (case side2 => exact HC0.out); (case side3 => repeat (first | exact (Kd.C_below HR1.out (by repeat (first | (with_reducible first | exact HB.out | apply below_alloc | apply pw_below_drewN | apply below_drew1) | exact HB.out))) | (with_reducible refine Kd.C_alloc ?_ _) | (with_reducible refine Kd.C_drewN ?_ _) | (with_reducible refine Kd.C_drew ?_))); (case side4 => exact HC1.out); (case side5 => repeat (first | exact (Kd.C_below HR3.out (by repeat (first | (with_reducible first | exact HB.out | apply below_alloc | apply pw_below_drewN | apply below_drew1) | exact HB.out))) | (with_reducible refine Kd.C_alloc ?_ _) | (with_reducible refine Kd.C_drewN ?_ _) | (with_reducible refine Kd.C_drew ?_))); (case side6 => exact HC3.out); rintro e w19 ⟨v242, rfl, ho0, hb⟩; have n0_ := Aside0.mk (Kd.R_lower ho0 (below_size (by repeat (first | (with_reducible first | exact HB.out | apply below_alloc | apply pw_below_drewN | apply below_drew1) | exact HB.out)))); have n1_ := Aside0.mk (below_step (by repeat (first | (with_reducible first | exact HB.out | apply below_alloc | apply pw_below_drewN | apply below_drew1) | exact HB.out)) hb); clear HB; have HO243 := n0_; have HB := n1_; clear n0_ n1_; (try clear hb); (try clear hb2); (try clear hk); (try clear hi); (try clear ho0)) | ((with_reducible refine gate_dst (N := 12) rfl ?_); (try (refine gate_guard (by rfl) ?_; dsimp only)); refine box_event ?hg (N := 12) ?hd (cs := #[.int .i64 0, .slice none 0 0, .int .i64 0]) (t := 28) ?hr ?_; (case hd => rfl); (case hg => rfl); (case hr => first | (go_simp; done) | (go_simp; rfl)); intro gb245 hg w20 hbox hb; have n0_ := Aside0.mk (Kd.R_below (by (with_reducible repeat (first | apply Kd.R_alloc | apply Kd.R_drewN | apply Kd.R_drew)); exact HO243.out) hb); have n1_ := Aside0.mk (below_step (by repeat (first | (with_reducible first | exact HB.out | apply below_alloc | apply pw_below_drewN | apply below_drew1) | exact HB.out)) hb); have n2_ := Aside0.mk (hbox); have n3_ := Aside0.mk ((by rw [hg]; exact (below_size (by repeat (first | (with_reducible first | exact HB.out | apply below_alloc | apply pw_below_drewN | apply below_drew1) | exact HB.out))) : w.heap.size ≤ gb245)); have n4_ := Aside0.mk ((by rw [hg]; exact (below_size (by repeat (first | (with_reducible first | exact HB.out | apply below_alloc | apply pw_below_drewN | apply below_drew1) | exact HB.out))) : w.heap.size ≤ gb245)); clear HO243; clear HB; have HO243 := n0_; have HB := n1_; have BK245 := n2_; have GW245 := n3_; have GE245 := n4_; clear n0_ n1_ n2_ n3_ n4_; clear hb hbox hg; have hcz21_0 : w20.cell? ⟨gb245, 0, none⟩ = some (.int .i64 0) := (blk_cell BK245.out 0).trans rfl; have hcz21_1 : w20.cell? ⟨gb245, 1, none⟩ = some (.slice none 0 0) := (blk_cell BK245.out 1).trans rfl; have hcz21_2 : w20.cell? ⟨gb245, 2, none⟩ = some (.int .i64 0) := (blk_cell BK245.out 2).trans rfl; have hfz21_0 := blk_frozen BK245.out 0; have hfz21_1 := blk_frozen BK245.out 1; have hfz21_2 := blk_frozen BK245.out 2; obtain ⟨Ao22, co22, eo22⟩ := Kd.R_slice HO243.out; subst eo22)))
          go_loopg [13, 60] kj5 (fun kq v13 v60 w' => ∃ (x13_2 : Int) (x60_2 : Int), v13 = .int .i64 x13_2 ∧ v60 = .int .i64 x60_2 ∧ Aside0 (vesperslaw21_BestMost.l0 kq l0 l1 a2 t238 x13_2 l4 (l4.length : Int) x60_2 t240 t241 t244 = some r) ∧ Aside0 (kq ≤ kj5) ∧ Aside0 (Kd.R (Kd.int .u32) 31 w' w.heap.size (fun _ => True) (.slice Ao22 t241.length co22) t241) ∧ Aside0 (w'.heap[gb245]? = some (.cells #[.int .i64 t240, (.slice Ao22 t241.length co22), .int .i64 t244] 28 (0, 0))) ∧ Aside0 (Below w.heap.size w w'))
          case atStart => exact ⟨(0), (0), (by first | rfl | (simp; done) | (simp [*]; done)), (by first | rfl | (simp; done) | (simp [*]; done)), H', ⟨Nat.le_refl _⟩, ⟨by (with_reducible repeat (first | apply Kd.R_alloc | apply Kd.R_drewN | apply Kd.R_drew)); exact Kd.R_mono (Kd.R_far (p := ⟨gb245, 2, none⟩) (Kd.R_far (p := ⟨gb245, 1, none⟩) (Kd.R_far (p := ⟨gb245, 0, none⟩) (Kd.R_types HO243.out BK245.out (by decide)) (fun _ hk => hk.2) (.int .i64 t240)) (fun _ hk => hk.2) (.slice Ao22 t241.length co22)) (fun _ hk => hk.2) (.int .i64 t244)) (fun _ hk => trivial)⟩, ⟨by (with_reducible repeat (first | refine blk_drewN ?_ _ | refine blk_drew ?_ | refine blk_alloc ?_ _)); refine blk_put (cs := #[.int .i64 t240, .slice Ao22 t241.length co22, .int .i64 0]) ?_ 2 _ rfl; (with_reducible repeat (first | refine blk_drewN ?_ _ | refine blk_drew ?_ | refine blk_alloc ?_ _)); refine blk_put (cs := #[.int .i64 t240, .slice none 0 0, .int .i64 0]) ?_ 1 _ rfl; (with_reducible repeat (first | refine blk_drewN ?_ _ | refine blk_drew ?_ | refine blk_alloc ?_ _)); refine blk_put (cs := #[.int .i64 0, .slice none 0 0, .int .i64 0]) ?_ 0 _ rfl; (with_reducible repeat (first | refine blk_drewN ?_ _ | refine blk_drew ?_ | refine blk_alloc ?_ _)); exact BK245.out⟩, ⟨by repeat (first | (with_reducible first | exact HB.out | apply below_alloc | apply pw_below_drewN | apply below_drew1 | refine below_set ?_ GE245.out) | exact HB.out)⟩⟩
          case round =>
            clear H'
            try clear c1
            try clear p2
            try clear c3
            try clear c4
            try clear c6
            try clear c7
            try clear c7b0
            try clear c7b1
            try clear c8
            try clear c8b0
            try clear c8b1
            try clear c9
            try clear c9b0
            try clear c9b1
            try clear c10
            try clear c15
            try clear c15b0
            try clear c15b1
            try clear c15b2
            try clear hcz21_0
            try clear hcz21_1
            try clear hcz21_2
            try clear hfz21_0
            try clear hfz21_1
            try clear hfz21_2
            try clear p2
            obtain ⟨x13_2, x60_2, rfl, rfl, HA, HK2, HO_246001, BK245, HB⟩ := hrel
            cases gk with
            | zero => exact absurd HA.out (by simp [vesperslaw21_BestMost.l0])
            | succ k2 =>
              have H := HA.out
              clear HA
              simp only [vesperslaw21_BestMost.l0] at H
              by_cases c23 : x60_2 < (l4.length : Int)
              · rw [if_pos c23] at H
                have c23b0 : decide (x60_2 < (l4.length : Int)) = true := decide_eq_true c23
                clear c23
                by_cases c24 : 0 ≤ x60_2
                · rw [if_pos c24] at H
                  have c24b0 : decide (0 ≤ x60_2) = true := decide_eq_true c24
                  clear c24
                  by_cases c25 : x60_2 < (l4.length : Int)
                  · rw [if_pos c25] at H
                    have c25b0 : decide (x60_2 < (l4.length : Int)) = true := decide_eq_true c25
                    clear c25
                    by_cases c26 : t238 = true
                    · subst c26
                      have H1 : (if 0 ≤ (rd l4 x60_2) then (if (rd l4 x60_2) < (l0.length : Int) then (vesperslaw21_BestMost.l0 k2 l0 l1 a2 true (wrap64 (x13_2 + (mn (mx ((rd_T33 l0 (rd l4 x60_2)).f1) 0) 1000))) l4 (l4.length : Int) (wrap64 (x60_2 + 1)) t240 t241 t244) else (none)) else (none)) = some r := by rw [if_pos rfl] at H; exact H
                      clear H
                      have H := H1
                      clear H1
                      by_cases c27 : 0 ≤ (rd l4 x60_2)
                      · rw [if_pos c27] at H
                        have c27b0 : decide (0 ≤ (rd l4 x60_2)) = true := decide_eq_true c27
                        clear c27
                        by_cases c28 : (rd l4 x60_2) < (l0.length : Int)
                        · rw [if_pos c28] at H
                          have c28b0 : decide ((rd l4 x60_2) < (l0.length : Int)) = true := decide_eq_true c28
                          clear c28
                          obtain ⟨ji29, hji29⟩ : ∃ j_ : Int, (mx ((rd_T33 l0 (rd l4 x60_2)).f1) 0) = j_ := ⟨_, rfl⟩
                          replace H : (vesperslaw21_BestMost.l0 k2 l0 l1 a2 true (wrap64 (x13_2 + (mn (ji29) 1000))) l4 (l4.length : Int) (wrap64 (x60_2 + 1)) t240 t241 t244) = some r := by first | (rw [hji29] at H; exact H) | (simp only [hji29] at H ⊢; exact H)
                          have hji29_ : (if ((rd_T33 l0 (rd l4 x60_2)).f1) < 0 then 0 else ((rd_T33 l0 (rd l4 x60_2)).f1)) = ji29 := hji29
                          obtain ⟨ji30, hji30⟩ : ∃ j_ : Int, (mn (ji29) 1000) = j_ := ⟨_, rfl⟩
                          replace H : (vesperslaw21_BestMost.l0 k2 l0 l1 a2 true (wrap64 (x13_2 + (ji30))) l4 (l4.length : Int) (wrap64 (x60_2 + 1)) t240 t241 t244) = some r := by first | (rw [hji30] at H; exact H) | (simp only [hji30] at H ⊢; exact H)
                          have hji30_ : (if 1000 < (ji29) then 1000 else (ji29)) = ji30 := hji30
                          have H' := Aside0.mk H
                          clear H
                          have p246 : 0 ≤ (x60_2 : Int) := of_decide_eq_true (by first | (with_reducible assumption) | assumption)
                          have q246 : x60_2 < (l4.length : Int) := of_decide_eq_true (by first | (with_reducible assumption) | assumption)
                          obtain ⟨ad246, e246, hx246_0⟩ := Kd.at_int HR4.out x60_2 p246 q246
                          cases e246
                          replace hx246_0 := (HB.out.cell (World.block_lt_of_cell? w _ hx246_0)).trans hx246_0
                          replace p246 := eq_true p246
                          replace q246 := eq_true q246
                          have p247 : 0 ≤ ((rd l4 x60_2) : Int) := of_decide_eq_true (by first | (with_reducible assumption) | assumption)
                          have q247 : (rd l4 x60_2) < (l0.length : Int) := of_decide_eq_true (by first | (with_reducible assumption) | assumption)
                          obtain ⟨ad247, e247, hx247_0, hx247_1⟩ := at_T33 HR0.out (rd l4 x60_2) p247 q247
                          cases e247
                          replace hx247_0 := (HB.out.cell (World.block_lt_of_cell? w _ hx247_0)).trans hx247_0
                          replace hx247_1 := (HB.out.cell (World.block_lt_of_cell? w _ hx247_1)).trans hx247_1
                          replace p247 := eq_true p247
                          replace q247 := eq_true q247
                          go_wp2
                          repeat (go_quiet (fail); try go_wp2)
                          go_roundg k2
                          case measure => have := HJ5.out; have := HK2.out; omega
                          case rel => exact ⟨(wrap64 (x13_2 + (ji30))), (wrap64 (x60_2 + 1)), (by first | rfl | (simp; done) | (simp only [← hji30] <;> (first | rfl | simp)) | (simp [*]; done)), (by first | rfl | (simp; done) | (simp [*]; done)), H', ⟨by have := HJ5.out; have := HK2.out; omega⟩, ⟨by (with_reducible repeat (first | apply Kd.R_alloc | apply Kd.R_drewN | apply Kd.R_drew)); exact HO_246001.out⟩, ⟨by (with_reducible repeat (first | refine blk_drewN ?_ _ | refine blk_drew ?_ | refine blk_alloc ?_ _)); exact BK245.out⟩, ⟨by repeat (first | (with_reducible first | exact HB.out | apply below_alloc | apply pw_below_drewN | apply below_drew1 | refine below_set ?_ GE245.out) | exact HB.out)⟩⟩
                        · rw [if_neg c28] at H
                          exact absurd H (by simp)
                      · rw [if_neg c27] at H
                        exact absurd H (by simp)
                    · replace c26 := Bool.eq_false_iff.mpr c26
                      subst c26
                      have H1 : (vesperslaw21_BestMost.l0 k2 l0 l1 a2 false x13_2 l4 (l4.length : Int) (wrap64 (x60_2 + 1)) t240 t241 t244) = some r := by rw [if_neg (show ¬ (false = true) by decide)] at H; exact H
                      clear H
                      have H := H1
                      clear H1
                      have H' := Aside0.mk H
                      clear H
                      have p246 : 0 ≤ (x60_2 : Int) := of_decide_eq_true (by first | (with_reducible assumption) | assumption)
                      have q246 : x60_2 < (l4.length : Int) := of_decide_eq_true (by first | (with_reducible assumption) | assumption)
                      obtain ⟨ad246, e246, hx246_0⟩ := Kd.at_int HR4.out x60_2 p246 q246
                      cases e246
                      replace hx246_0 := (HB.out.cell (World.block_lt_of_cell? w _ hx246_0)).trans hx246_0
                      replace p246 := eq_true p246
                      replace q246 := eq_true q246
                      go_wp2
                      repeat (go_quiet (fail); try go_wp2)
                      go_roundg k2
                      case measure => have := HJ5.out; have := HK2.out; omega
                      case rel => exact ⟨(x13_2), (wrap64 (x60_2 + 1)), (by first | rfl | (simp; done) | (simp [*]; done)), (by first | rfl | (simp; done) | (simp [*]; done)), H', ⟨by have := HJ5.out; have := HK2.out; omega⟩, ⟨by (with_reducible repeat (first | apply Kd.R_alloc | apply Kd.R_drewN | apply Kd.R_drew)); exact HO_246001.out⟩, ⟨by (with_reducible repeat (first | refine blk_drewN ?_ _ | refine blk_drew ?_ | refine blk_alloc ?_ _)); exact BK245.out⟩, ⟨by repeat (first | (with_reducible first | exact HB.out | apply below_alloc | apply pw_below_drewN | apply below_drew1 | refine below_set ?_ GE245.out) | exact HB.out)⟩⟩
                  · rw [if_neg c25] at H
                    exact absurd H (by simp)
                · rw [if_neg c24] at H
                  exact absurd H (by simp)
              · rw [if_neg c23] at H
                have c23b0 : decide (x60_2 < (l4.length : Int)) = false := decide_eq_false c23
                clear c23
                have HC31 := Aside0.mk H
                clear H
                go_upto_region 14 with (fail)
                repeat (go_quiet (fail); go_upto_region 14 with (fail))
                go_cut [90] (fun v90 wc => ∃ (kq : Nat) (x90_30 : Bool), v90 = .bool x90_30 ∧ Aside0 (vesperslaw21_BestMost.j2 kq l0 l1 a2 x90_30 t240 t241 t244 = some r) ∧ Aside0 (kq ≤ k2) ∧ Aside0 (Kd.R (Kd.int .u32) 31 wc w.heap.size (fun _ => True) (.slice Ao22 t241.length co22) t241) ∧ Aside0 (wc.heap[gb245]? = some (.cells #[.int .i64 t240, (.slice Ao22 t241.length co22), .int .i64 t244] 28 (0, 0))) ∧ Aside0 (Below w.heap.size w wc))
                case first =>
                  have H := HC31.out
                  clear HC31
                  by_cases c32 : t238 = true
                  · subst c32
                    have H1 : (if x13_2 > t240 then (vesperslaw21_BestMost.j2 k2 l0 l1 a2 true t240 t241 t244) else (if 0 ≤ (wrap64 ((l0.length : Int) + 1)) then (vesperslaw21_BestMost.j2 k2 l0 l1 a2 (decide (t244 > (shl .i64 1 (wrap64 ((l0.length : Int) + 1))))) t240 t241 t244) else (none))) = some r := by rw [if_pos rfl] at H; exact H
                    clear H
                    have H := H1
                    clear H1
                    by_cases c33 : x13_2 > t240
                    · rw [if_pos c33] at H
                      have c33b0 : decide (t240 < x13_2) = true := decide_eq_true c33
                      clear c33
                      (first | rw [c33b0] | (simp only [i64_w, i32_w]; rw [c33b0]) | skip)
                      have H' := Aside0.mk H
                      clear H
                      have hcz34_0 : wr.cell? ⟨gb245, 0, none⟩ = some (.int .i64 t240) := (blk_cell BK245.out 0).trans rfl
                      have hcz34_1 : wr.cell? ⟨gb245, 1, none⟩ = some (.slice Ao22 t241.length co22) := (blk_cell BK245.out 1).trans rfl
                      have hcz34_2 : wr.cell? ⟨gb245, 2, none⟩ = some (.int .i64 t244) := (blk_cell BK245.out 2).trans rfl
                      have hfz34_0 := blk_frozen BK245.out 0
                      have hfz34_1 := blk_frozen BK245.out 1
                      have hfz34_2 := blk_frozen BK245.out 2
                      go_wp2
                      repeat (go_quiet (fail); try go_wp2)
                      go_meet
                      case rel => exact ⟨_, (true), (by first | rfl | (simp; done) | (simp [*]; done)), H', ⟨by have := HJ5.out; have := HK2.out; first | omega | exact Nat.le_refl _⟩, ⟨by (with_reducible repeat (first | apply Kd.R_alloc | apply Kd.R_drewN | apply Kd.R_drew)); exact HO_246001.out⟩, ⟨by (with_reducible repeat (first | refine blk_drewN ?_ _ | refine blk_drew ?_ | refine blk_alloc ?_ _)); exact BK245.out⟩, ⟨by repeat (first | (with_reducible first | exact HB.out | apply below_alloc | apply pw_below_drewN | apply below_drew1 | refine below_set ?_ GE245.out) | exact HB.out)⟩⟩
                    · rw [if_neg c33] at H
                      have c33b0 : decide (t240 < x13_2) = false := decide_eq_false c33
                      clear c33
                      (first | rw [c33b0] | (simp only [i64_w, i32_w]; rw [c33b0]) | skip)
                      obtain ⟨ji35, hji35⟩ : ∃ j_ : Int, (wrap64 ((l0.length : Int) + 1)) = j_ := ⟨_, rfl⟩
                      replace H : (if 0 ≤ (ji35) then (vesperslaw21_BestMost.j2 k2 l0 l1 a2 (decide (t244 > (shl .i64 1 (ji35)))) t240 t241 t244) else (none)) = some r := by first | (rw [hji35] at H; exact H) | (simp only [hji35] at H ⊢; exact H)
                      have hji35w : (IntKind.i64.wrap ((l0.length : Int) + 1)) = ji35 := (i64_w _).trans hji35
                      by_cases c36 : 0 ≤ (ji35)
                      · rw [if_pos c36] at H
                        have c36b0 := eq_true c36
                        have c36b1 : decide (0 ≤ (ji35)) = true := decide_eq_true c36
                        clear c36
                        obtain ⟨ji37, hji37⟩ : ∃ j_ : Int, (shl .i64 1 (ji35)) = j_ := ⟨_, rfl⟩
                        replace H : (vesperslaw21_BestMost.j2 k2 l0 l1 a2 (decide (t244 > (ji37))) t240 t241 t244) = some r := by first | (rw [hji37] at H; exact H) | (simp only [hji37] at H ⊢; exact H)
                        have hji37_ : (IntKind.i64.wrap (1 * 2 ^ min (ji35).toNat 64)) = ji37 := hji37
                        have hji37z : (ji35) ≤ 64 → (IntKind.i64.wrap (1 * 2 ^ (ji35).toNat)) = ji37 := shl_small hji37
                        have hji37u : (IntKind.i64.wrap (2 ^ min (ji35).toNat 64)) = ji37 := by have h_ := hji37_; rw [Int.one_mul] at h_; exact h_
                        have hji37v : (ji35) ≤ 64 → (IntKind.i64.wrap (2 ^ (ji35).toNat)) = ji37 := fun hle_ => by have h_ := hji37z hle_; rw [Int.one_mul] at h_; exact h_
                        have hji37y : (wrap64 (1 * 2 ^ min (ji35).toNat 64)) = ji37 := (i64_w _).symm.trans hji37_
                        have hji37x : (ji35) ≤ 64 → (wrap64 (1 * 2 ^ (ji35).toNat)) = ji37 := fun h_ => (i64_w _).symm.trans (hji37z h_)
                        have H' := Aside0.mk H
                        clear H
                        have hcz38_0 : wr.cell? ⟨gb245, 0, none⟩ = some (.int .i64 t240) := (blk_cell BK245.out 0).trans rfl
                        have hcz38_1 : wr.cell? ⟨gb245, 1, none⟩ = some (.slice Ao22 t241.length co22) := (blk_cell BK245.out 1).trans rfl
                        have hcz38_2 : wr.cell? ⟨gb245, 2, none⟩ = some (.int .i64 t244) := (blk_cell BK245.out 2).trans rfl
                        have hfz38_0 := blk_frozen BK245.out 0
                        have hfz38_1 := blk_frozen BK245.out 1
                        have hfz38_2 := blk_frozen BK245.out 2
                        go_wp2
                        repeat (go_quiet (fail); try go_wp2)
                        go_meet
                        case rel => exact ⟨_, (decide (t244 > (ji37))), (by first | rfl | (simp; done) | (simp only [← hji37] <;> (first | rfl | simp)) | (simp [*]; done)), H', ⟨by have := HJ5.out; have := HK2.out; first | omega | exact Nat.le_refl _⟩, ⟨by (with_reducible repeat (first | apply Kd.R_alloc | apply Kd.R_drewN | apply Kd.R_drew)); exact HO_246001.out⟩, ⟨by (with_reducible repeat (first | refine blk_drewN ?_ _ | refine blk_drew ?_ | refine blk_alloc ?_ _)); exact BK245.out⟩, ⟨by repeat (first | (with_reducible first | exact HB.out | apply below_alloc | apply pw_below_drewN | apply below_drew1 | refine below_set ?_ GE245.out) | exact HB.out)⟩⟩
                      · rw [if_neg c36] at H
                        exact absurd H (by simp)
                  · replace c32 := Bool.eq_false_iff.mpr c32
                    subst c32
                    have H1 : (if 0 ≤ (wrap64 ((l0.length : Int) + 1)) then (vesperslaw21_BestMost.j2 k2 l0 l1 a2 (decide (t244 > (shl .i64 1 (wrap64 ((l0.length : Int) + 1))))) t240 t241 t244) else (none)) = some r := by rw [if_neg (show ¬ (false = true) by decide)] at H; exact H
                    clear H
                    have H := H1
                    clear H1
                    obtain ⟨ji39, hji39⟩ : ∃ j_ : Int, (wrap64 ((l0.length : Int) + 1)) = j_ := ⟨_, rfl⟩
                    replace H : (if 0 ≤ (ji39) then (vesperslaw21_BestMost.j2 k2 l0 l1 a2 (decide (t244 > (shl .i64 1 (ji39)))) t240 t241 t244) else (none)) = some r := by first | (rw [hji39] at H; exact H) | (simp only [hji39] at H ⊢; exact H)
                    have hji39w : (IntKind.i64.wrap ((l0.length : Int) + 1)) = ji39 := (i64_w _).trans hji39
                    by_cases c40 : 0 ≤ (ji39)
                    · rw [if_pos c40] at H
                      have c40b0 := eq_true c40
                      have c40b1 : decide (0 ≤ (ji39)) = true := decide_eq_true c40
                      clear c40
                      obtain ⟨ji41, hji41⟩ : ∃ j_ : Int, (shl .i64 1 (ji39)) = j_ := ⟨_, rfl⟩
                      replace H : (vesperslaw21_BestMost.j2 k2 l0 l1 a2 (decide (t244 > (ji41))) t240 t241 t244) = some r := by first | (rw [hji41] at H; exact H) | (simp only [hji41] at H ⊢; exact H)
                      have hji41_ : (IntKind.i64.wrap (1 * 2 ^ min (ji39).toNat 64)) = ji41 := hji41
                      have hji41z : (ji39) ≤ 64 → (IntKind.i64.wrap (1 * 2 ^ (ji39).toNat)) = ji41 := shl_small hji41
                      have hji41u : (IntKind.i64.wrap (2 ^ min (ji39).toNat 64)) = ji41 := by have h_ := hji41_; rw [Int.one_mul] at h_; exact h_
                      have hji41v : (ji39) ≤ 64 → (IntKind.i64.wrap (2 ^ (ji39).toNat)) = ji41 := fun hle_ => by have h_ := hji41z hle_; rw [Int.one_mul] at h_; exact h_
                      have hji41y : (wrap64 (1 * 2 ^ min (ji39).toNat 64)) = ji41 := (i64_w _).symm.trans hji41_
                      have hji41x : (ji39) ≤ 64 → (wrap64 (1 * 2 ^ (ji39).toNat)) = ji41 := fun h_ => (i64_w _).symm.trans (hji41z h_)
                      have H' := Aside0.mk H
                      clear H
                      have hcz42_0 : wr.cell? ⟨gb245, 0, none⟩ = some (.int .i64 t240) := (blk_cell BK245.out 0).trans rfl
                      have hcz42_1 : wr.cell? ⟨gb245, 1, none⟩ = some (.slice Ao22 t241.length co22) := (blk_cell BK245.out 1).trans rfl
                      have hcz42_2 : wr.cell? ⟨gb245, 2, none⟩ = some (.int .i64 t244) := (blk_cell BK245.out 2).trans rfl
                      have hfz42_0 := blk_frozen BK245.out 0
                      have hfz42_1 := blk_frozen BK245.out 1
                      have hfz42_2 := blk_frozen BK245.out 2
                      go_wp2
                      repeat (go_quiet (fail); try go_wp2)
                      go_meet
                      case rel => exact ⟨_, (decide (t244 > (ji41))), (by first | rfl | (simp; done) | (simp only [← hji41] <;> (first | rfl | simp)) | (simp [*]; done)), H', ⟨by have := HJ5.out; have := HK2.out; first | omega | exact Nat.le_refl _⟩, ⟨by (with_reducible repeat (first | apply Kd.R_alloc | apply Kd.R_drewN | apply Kd.R_drew)); exact HO_246001.out⟩, ⟨by (with_reducible repeat (first | refine blk_drewN ?_ _ | refine blk_drew ?_ | refine blk_alloc ?_ _)); exact BK245.out⟩, ⟨by repeat (first | (with_reducible first | exact HB.out | apply below_alloc | apply pw_below_drewN | apply below_drew1 | refine below_set ?_ GE245.out) | exact HB.out)⟩⟩
                    · rw [if_neg c40] at H
                      exact absurd H (by simp)
                case rest =>
                  clear HC31
                  try clear c1
                  try clear c2
                  try clear p2
                  try clear q2
                  try clear hx2
                  try clear c3
                  try clear c4
                  try clear c6
                  try clear p6
                  try clear c7
                  try clear c7b0
                  try clear c7b1
                  try clear c8
                  try clear c8b0
                  try clear c8b1
                  try clear c9
                  try clear c9b0
                  try clear c9b1
                  try clear c10
                  try clear c15
                  try clear c15b0
                  try clear c15b1
                  try clear c15b2
                  try clear c23
                  try clear c23b0
                  try clear c24
                  try clear c24b0
                  try clear p24
                  try clear q24
                  try clear hx24
                  try clear c25
                  try clear c25b0
                  try clear c26
                  try clear c27
                  try clear c27b0
                  try clear c28
                  try clear c28b0
                  try clear c32
                  try clear c33
                  try clear c33b0
                  try clear c36
                  try clear c36b0
                  try clear c36b1
                  try clear c40
                  try clear c40b0
                  try clear c40b1
                  try clear hcz21_0
                  try clear hcz21_1
                  try clear hcz21_2
                  try clear hcz34_0
                  try clear hcz34_1
                  try clear hcz34_2
                  try clear hcz38_0
                  try clear hcz38_1
                  try clear hcz38_2
                  try clear hcz42_0
                  try clear hcz42_1
                  try clear hcz42_2
                  try clear hfz21_0
                  try clear hfz21_1
                  try clear hfz21_2
                  try clear hfz34_0
                  try clear hfz34_1
                  try clear hfz34_2
                  try clear hfz38_0
                  try clear hfz38_1
                  try clear hfz38_2
                  try clear hfz42_0
                  try clear hfz42_1
                  try clear hfz42_2
                  try clear hx246_0
                  try clear hx247_0
                  try clear hx247_1
                  try clear p2
                  try clear p246
                  try clear p247
                  try clear q246
                  try clear q247
                  obtain ⟨kq, x90_30, rfl, HA, HJ30, HO_246001, BK245, HB⟩ := hcut
                  cases kq with
                  | zero => exact absurd HA.out (by simp [vesperslaw21_BestMost.j2])
                  | succ kj30 =>
                    have H := HA.out
                    clear HA
                    simp only [vesperslaw21_BestMost.j2] at H
                    by_cases c43 : x90_30 = true
                    · subst c43
                      have H1 : (some false) = some r := by rw [if_pos rfl] at H; exact H
                      clear H
                      have H := H1
                      clear H1
                      obtain rfl := Option.some.inj H
                      go_wp2
                      repeat (go_quiet (fail); try go_wp2)
                      go_ret
                      exact ⟨by first | rfl | (simp [errW_none, errW_some] <;> rfl) | (simp [*, errW_none, errW_some] <;> rfl) | (simp only [IntWalk.i64_left]; rfl), by repeat (first | (with_reducible first | exact HB.out | apply below_alloc | apply pw_below_drewN | apply below_drew1 | refine below_set ?_ GE245.out) | exact HB.out)⟩
                    · replace c43 := Bool.eq_false_iff.mpr c43
                      subst c43
                      have H1 : (vesperslaw21_BestMost.l1 kj30 l0 l1 a2 0 0 t241 (t241.length : Int) 0) = some r := by rw [if_neg (show ¬ (false = true) by decide)] at H; exact H
                      clear H
                      have H := H1
                      clear H1
                      have H' := Aside0.mk H
                      clear H
                      have hcz44_0 : wc.cell? ⟨gb245, 0, none⟩ = some (.int .i64 t240) := (blk_cell BK245.out 0).trans rfl
                      have hcz44_1 : wc.cell? ⟨gb245, 1, none⟩ = some (.slice Ao22 t241.length co22) := (blk_cell BK245.out 1).trans rfl
                      have hcz44_2 : wc.cell? ⟨gb245, 2, none⟩ = some (.int .i64 t244) := (blk_cell BK245.out 2).trans rfl
                      have hfz44_0 := blk_frozen BK245.out 0
                      have hfz44_1 := blk_frozen BK245.out 1
                      have hfz44_2 := blk_frozen BK245.out 2
                      go_wp2
                      repeat (go_quiet (fail); try go_wp2)
                      go_loopg [16, 17, 94] kj30 (fun kq v16 v17 v94 w' => ∃ (x16_4 : Int) (x17_4 : Int) (x94_4 : Int), v16 = .int .i64 x16_4 ∧ v17 = .int .i64 x17_4 ∧ v94 = .int .i64 x94_4 ∧ Aside0 (vesperslaw21_BestMost.l1 kq l0 l1 a2 x16_4 x17_4 t241 (t241.length : Int) x94_4 = some r) ∧ Aside0 (kq ≤ kj30) ∧ Aside0 (Kd.R (Kd.int .u32) 31 w' w.heap.size (fun _ => True) (.slice Ao22 t241.length co22) t241) ∧ Aside0 (Kd.R (Kd.int .u32) 31 w' w.heap.size (fun _ => True) (.slice Ao22 t241.length co22) t241) ∧ Aside0 (w'.heap[gb245]? = some (.cells #[.int .i64 t240, (.slice Ao22 t241.length co22), .int .i64 t244] 28 (0, 0))) ∧ Aside0 (Below w.heap.size w w'))
                      case atStart => exact ⟨(0), (0), (0), (by first | rfl | (simp; done) | (simp [*]; done)), (by first | rfl | (simp; done) | (simp [*]; done)), (by first | rfl | (simp; done) | (simp [*]; done)), H', ⟨Nat.le_refl _⟩, ⟨by (with_reducible repeat (first | apply Kd.R_alloc | apply Kd.R_drewN | apply Kd.R_drew)); exact HO_246001.out⟩, ⟨by (with_reducible repeat (first | apply Kd.R_alloc | apply Kd.R_drewN | apply Kd.R_drew)); exact HO_246001.out⟩, ⟨by (with_reducible repeat (first | refine blk_drewN ?_ _ | refine blk_drew ?_ | refine blk_alloc ?_ _)); exact BK245.out⟩, ⟨by repeat (first | (with_reducible first | exact HB.out | apply below_alloc | apply pw_below_drewN | apply below_drew1 | refine below_set ?_ GE245.out) | exact HB.out)⟩⟩
                      case round =>
                        clear H'
                        try clear c1
                        try clear c2
                        try clear p2
                        try clear q2
                        try clear hx2
                        try clear c3
                        try clear c4
                        try clear c6
                        try clear p6
                        try clear c7
                        try clear c7b0
                        try clear c7b1
                        try clear c8
                        try clear c8b0
                        try clear c8b1
                        try clear c9
                        try clear c9b0
                        try clear c9b1
                        try clear c10
                        try clear c15
                        try clear c15b0
                        try clear c15b1
                        try clear c15b2
                        try clear c23
                        try clear c23b0
                        try clear c24
                        try clear c24b0
                        try clear p24
                        try clear q24
                        try clear hx24
                        try clear c25
                        try clear c25b0
                        try clear c26
                        try clear c27
                        try clear c27b0
                        try clear c28
                        try clear c28b0
                        try clear c32
                        try clear c33
                        try clear c33b0
                        try clear c36
                        try clear c36b0
                        try clear c36b1
                        try clear c40
                        try clear c40b0
                        try clear c40b1
                        try clear c43
                        try clear hcz21_0
                        try clear hcz21_1
                        try clear hcz21_2
                        try clear hcz34_0
                        try clear hcz34_1
                        try clear hcz34_2
                        try clear hcz38_0
                        try clear hcz38_1
                        try clear hcz38_2
                        try clear hcz42_0
                        try clear hcz42_1
                        try clear hcz42_2
                        try clear hcz44_0
                        try clear hcz44_1
                        try clear hcz44_2
                        try clear hfz21_0
                        try clear hfz21_1
                        try clear hfz21_2
                        try clear hfz34_0
                        try clear hfz34_1
                        try clear hfz34_2
                        try clear hfz38_0
                        try clear hfz38_1
                        try clear hfz38_2
                        try clear hfz42_0
                        try clear hfz42_1
                        try clear hfz42_2
                        try clear hfz44_0
                        try clear hfz44_1
                        try clear hfz44_2
                        try clear hx246_0
                        try clear hx247_0
                        try clear hx247_1
                        try clear p2
                        try clear p24
                        try clear p246
                        try clear p247
                        try clear p6
                        try clear q2
                        try clear q24
                        try clear q246
                        try clear q247
                        obtain ⟨x16_4, x17_4, x94_4, rfl, rfl, rfl, HA, HK4, HO_92, HO_246001, BK245, HB⟩ := hrel
                        cases gk with
                        | zero => exact absurd HA.out (by simp [vesperslaw21_BestMost.l1])
                        | succ k4 =>
                          have H := HA.out
                          clear HA
                          simp only [vesperslaw21_BestMost.l1] at H
                          by_cases c45 : x94_4 < (t241.length : Int)
                          · rw [if_pos c45] at H
                            have c45b0 : decide (x94_4 < (t241.length : Int)) = true := decide_eq_true c45
                            clear c45
                            by_cases c46 : 0 ≤ x94_4
                            · rw [if_pos c46] at H
                              have c46b0 : decide (0 ≤ x94_4) = true := decide_eq_true c46
                              clear c46
                              by_cases c47 : x94_4 < (t241.length : Int)
                              · rw [if_pos c47] at H
                                have c47b0 : decide (x94_4 < (t241.length : Int)) = true := decide_eq_true c47
                                clear c47
                                have H' := Aside0.mk H
                                clear H
                                have p249 : 0 ≤ (x94_4 : Int) := of_decide_eq_true (by first | (with_reducible assumption) | assumption)
                                have q249 : x94_4 < (t241.length : Int) := of_decide_eq_true (by first | (with_reducible assumption) | assumption)
                                obtain ⟨ad249, e249, hx249_0⟩ := Kd.at_int (Kd.R_reads' HO_92.out).2.2 x94_4 p249 q249
                                cases e249
                                replace p249 := eq_true p249
                                replace q249 := eq_true q249
                                go_wp2
                                repeat (go_quiet (fail); try go_wp2)
                                go_loopg [16] k4 (fun kq v16 w' => ∃ (x16_5 : Int), v16 = .int .i64 x16_5 ∧ Aside0 (vesperslaw21_BestMost.l2 kq l0 l1 a2 x16_5 x17_4 (rd t241 x94_4) t241 (t241.length : Int) x94_4 = some r) ∧ Aside0 (kq ≤ k4) ∧ Aside0 (Kd.R (Kd.int .u32) 31 w' w.heap.size (fun _ => True) (.slice (some ad249) t241.length co22) t241) ∧ Aside0 (Kd.R (Kd.int .u32) 31 w' w.heap.size (fun _ => True) (.slice (some ad249) t241.length co22) t241) ∧ Aside0 (w'.heap[gb245]? = some (.cells #[.int .i64 t240, (.slice (some ad249) t241.length co22), .int .i64 t244] 28 (0, 0))) ∧ Aside0 (Below w.heap.size w w'))
                                case atStart => exact ⟨(x16_4), (by first | rfl | (simp; done) | (simp [*]; done)), H', ⟨Nat.le_refl _⟩, ⟨by (with_reducible repeat (first | apply Kd.R_alloc | apply Kd.R_drewN | apply Kd.R_drew)); exact HO_92.out⟩, ⟨by (with_reducible repeat (first | apply Kd.R_alloc | apply Kd.R_drewN | apply Kd.R_drew)); exact HO_246001.out⟩, ⟨by (with_reducible repeat (first | refine blk_drewN ?_ _ | refine blk_drew ?_ | refine blk_alloc ?_ _)); exact BK245.out⟩, ⟨by repeat (first | (with_reducible first | exact HB.out | apply below_alloc | apply pw_below_drewN | apply below_drew1 | refine below_set ?_ GE245.out) | exact HB.out)⟩⟩
                                case round =>
                                  clear H'
                                  try clear c1
                                  try clear c2
                                  try clear p2
                                  try clear q2
                                  try clear hx2
                                  try clear c3
                                  try clear c4
                                  try clear c6
                                  try clear p6
                                  try clear c7
                                  try clear c7b0
                                  try clear c7b1
                                  try clear c8
                                  try clear c8b0
                                  try clear c8b1
                                  try clear c9
                                  try clear c9b0
                                  try clear c9b1
                                  try clear c10
                                  try clear c15
                                  try clear c15b0
                                  try clear c15b1
                                  try clear c15b2
                                  try clear c23
                                  try clear c23b0
                                  try clear c24
                                  try clear c24b0
                                  try clear p24
                                  try clear q24
                                  try clear hx24
                                  try clear c25
                                  try clear c25b0
                                  try clear c26
                                  try clear c27
                                  try clear c27b0
                                  try clear c28
                                  try clear c28b0
                                  try clear c32
                                  try clear c33
                                  try clear c33b0
                                  try clear c36
                                  try clear c36b0
                                  try clear c36b1
                                  try clear c40
                                  try clear c40b0
                                  try clear c40b1
                                  try clear c43
                                  try clear c45
                                  try clear c45b0
                                  try clear c46
                                  try clear c46b0
                                  try clear c47
                                  try clear c47b0
                                  try clear hcz21_0
                                  try clear hcz21_1
                                  try clear hcz21_2
                                  try clear hcz34_0
                                  try clear hcz34_1
                                  try clear hcz34_2
                                  try clear hcz38_0
                                  try clear hcz38_1
                                  try clear hcz38_2
                                  try clear hcz42_0
                                  try clear hcz42_1
                                  try clear hcz42_2
                                  try clear hcz44_0
                                  try clear hcz44_1
                                  try clear hcz44_2
                                  try clear hfz21_0
                                  try clear hfz21_1
                                  try clear hfz21_2
                                  try clear hfz34_0
                                  try clear hfz34_1
                                  try clear hfz34_2
                                  try clear hfz38_0
                                  try clear hfz38_1
                                  try clear hfz38_2
                                  try clear hfz42_0
                                  try clear hfz42_1
                                  try clear hfz42_2
                                  try clear hfz44_0
                                  try clear hfz44_1
                                  try clear hfz44_2
                                  try clear hx246_0
                                  try clear hx247_0
                                  try clear hx247_1
                                  try clear hx249_0
                                  try clear p2
                                  try clear p24
                                  try clear p246
                                  try clear p247
                                  try clear p249
                                  try clear p6
                                  try clear q2
                                  try clear q24
                                  try clear q246
                                  try clear q247
                                  try clear q249
                                  obtain ⟨x16_5, rfl, HA, HK5, HO_92, HO_246001, BK245, HB⟩ := hrel
                                  cases gk with
                                  | zero => exact absurd HA.out (by simp [vesperslaw21_BestMost.l2])
                                  | succ k5 =>
                                    have H := HA.out
                                    clear HA
                                    simp only [vesperslaw21_BestMost.l2] at H
                                    by_cases c48 : x16_5 < (l0.length : Int)
                                    · rw [if_pos c48] at H
                                      have c48b0 : decide (x16_5 < (l0.length : Int)) = true := decide_eq_true c48
                                      clear c48
                                      by_cases c49 : 0 ≤ x16_5
                                      · rw [if_pos c49] at H
                                        have c49b0 : decide (0 ≤ x16_5) = true := decide_eq_true c49
                                        clear c49
                                        by_cases c50 : ((rd_T33 l0 x16_5).f0) = (rd t241 x94_4)
                                        · rw [if_pos c50] at H
                                          have c50b0 : (((rd_T33 l0 x16_5).f0) == (rd t241 x94_4)) = true := beq_iff_eq.mpr c50
                                          have c50b1 : (((rd_T33 l0 x16_5).f0) != (rd t241 x94_4)) = false := bne_eq_false_iff_eq.mpr c50
                                          clear c50
                                          by_cases c51 : x16_5 ≥ (l1.length : Int)
                                          · rw [if_pos c51] at H
                                            have c51b0 : decide ((l1.length : Int) ≤ x16_5) = true := decide_eq_true c51
                                            clear c51
                                            have H' := Aside0.mk H
                                            clear H
                                            have p250 : 0 ≤ (x16_5 : Int) := of_decide_eq_true (by first | (with_reducible assumption) | assumption)
                                            have q250 : x16_5 < (l0.length : Int) := of_decide_eq_true (by first | (with_reducible assumption) | assumption)
                                            obtain ⟨ad250, e250, hx250_0, hx250_1⟩ := at_T33 HR0.out x16_5 p250 q250
                                            cases e250
                                            replace hx250_0 := (HB.out.cell (World.block_lt_of_cell? w _ hx250_0)).trans hx250_0
                                            replace hx250_1 := (HB.out.cell (World.block_lt_of_cell? w _ hx250_1)).trans hx250_1
                                            replace p250 := eq_true p250
                                            replace q250 := eq_true q250
                                            go_wp2
                                            repeat (go_quiet (fail); try go_wp2)
                                            go_roundg k5
                                            case measure => have := HJ5.out; have := HK2.out; have := HJ30.out; have := HK4.out; have := HK5.out; omega
                                            case rel => exact ⟨(wrap64 (x16_5 + 1)), (by first | rfl | (simp; done) | (simp [*]; done)), H', ⟨by have := HJ5.out; have := HK2.out; have := HJ30.out; have := HK4.out; have := HK5.out; omega⟩, ⟨by (with_reducible repeat (first | apply Kd.R_alloc | apply Kd.R_drewN | apply Kd.R_drew)); exact HO_92.out⟩, ⟨by (with_reducible repeat (first | apply Kd.R_alloc | apply Kd.R_drewN | apply Kd.R_drew)); exact HO_246001.out⟩, ⟨by (with_reducible repeat (first | refine blk_drewN ?_ _ | refine blk_drew ?_ | refine blk_alloc ?_ _)); exact BK245.out⟩, ⟨by repeat (first | (with_reducible first | exact HB.out | apply below_alloc | apply pw_below_drewN | apply below_drew1 | refine below_set ?_ GE245.out) | exact HB.out)⟩⟩
                                          · rw [if_neg c51] at H
                                            have c51b0 : decide ((l1.length : Int) ≤ x16_5) = false := decide_eq_false c51
                                            clear c51
                                            by_cases c52 : x16_5 < (l1.length : Int)
                                            · rw [if_pos c52] at H
                                              have c52b0 : decide (x16_5 < (l1.length : Int)) = true := decide_eq_true c52
                                              clear c52
                                              obtain ⟨bq53, hbq53⟩ : ∃ b_ : Bool, b_ = (rdOf false l1 x16_5) := ⟨_, rfl⟩
                                              replace H : (if bq53 = true then (if x16_5 = (l0.length : Int) then (some false) else (vesperslaw21_BestMost.l1 k5 l0 l1 a2 (wrap64 (x16_5 + 1)) (wrap64 (x17_4 + 1)) t241 (t241.length : Int) (wrap64 (x94_4 + 1)))) else (vesperslaw21_BestMost.l2 k5 l0 l1 a2 (wrap64 (x16_5 + 1)) x17_4 (rd t241 x94_4) t241 (t241.length : Int) x94_4)) = some r := by rw [← hbq53] at H; exact H
                                              have Nbq53 := Aside0.mk hbq53
                                              clear hbq53
                                              by_cases c54 : bq53 = true
                                              · subst c54
                                                have H1 : (if x16_5 = (l0.length : Int) then (some false) else (vesperslaw21_BestMost.l1 k5 l0 l1 a2 (wrap64 (x16_5 + 1)) (wrap64 (x17_4 + 1)) t241 (t241.length : Int) (wrap64 (x94_4 + 1)))) = some r := by rw [if_pos rfl] at H; exact H
                                                clear H
                                                have H := H1
                                                clear H1
                                                by_cases c55 : x16_5 = (l0.length : Int)
                                                · rw [if_pos c55] at H
                                                  have c55b0 : (x16_5 == (l0.length : Int)) = true := beq_iff_eq.mpr c55
                                                  have c55b1 : (x16_5 != (l0.length : Int)) = false := bne_eq_false_iff_eq.mpr c55
                                                  clear c55
                                                  obtain rfl := Option.some.inj H
                                                  have p250 : 0 ≤ (x16_5 : Int) := of_decide_eq_true (by first | (with_reducible assumption) | assumption)
                                                  have q250 : x16_5 < (l0.length : Int) := of_decide_eq_true (by first | (with_reducible assumption) | assumption)
                                                  obtain ⟨ad250, e250, hx250_0, hx250_1⟩ := at_T33 HR0.out x16_5 p250 q250
                                                  cases e250
                                                  replace hx250_0 := (HB.out.cell (World.block_lt_of_cell? w _ hx250_0)).trans hx250_0
                                                  replace hx250_1 := (HB.out.cell (World.block_lt_of_cell? w _ hx250_1)).trans hx250_1
                                                  replace p250 := eq_true p250
                                                  replace q250 := eq_true q250
                                                  have p251 : 0 ≤ (x16_5 : Int) := of_decide_eq_true (by first | (with_reducible assumption) | assumption)
                                                  have q251 : x16_5 < (l1.length : Int) := of_decide_eq_true (by first | (with_reducible assumption) | assumption)
                                                  obtain ⟨ad251, e251, hx251_0⟩ := Kd.at_bool HR1.out x16_5 p251 q251
                                                  (try rw [← Nbq53.out] at hx251_0)
                                                  cases e251
                                                  replace hx251_0 := (HB.out.cell (World.block_lt_of_cell? w _ hx251_0)).trans hx251_0
                                                  replace p251 := eq_true p251
                                                  replace q251 := eq_true q251
                                                  go_wp2
                                                  repeat (go_quiet (fail); try go_wp2)
                                                  go_ret
                                                  exact ⟨by first | rfl | (simp [errW_none, errW_some] <;> rfl) | (simp [*, errW_none, errW_some] <;> rfl) | (simp only [IntWalk.i64_left]; rfl), by repeat (first | (with_reducible first | exact HB.out | apply below_alloc | apply pw_below_drewN | apply below_drew1 | refine below_set ?_ GE245.out) | exact HB.out)⟩
                                                · rw [if_neg c55] at H
                                                  have c55b0 : (x16_5 == (l0.length : Int)) = false := beq_eq_false_iff_ne.mpr c55
                                                  have c55b1 : (x16_5 != (l0.length : Int)) = true := bne_iff_ne.mpr c55
                                                  have H' := Aside0.mk H
                                                  clear H
                                                  have p250 : 0 ≤ (x16_5 : Int) := of_decide_eq_true (by first | (with_reducible assumption) | assumption)
                                                  have q250 : x16_5 < (l0.length : Int) := of_decide_eq_true (by first | (with_reducible assumption) | assumption)
                                                  obtain ⟨ad250, e250, hx250_0, hx250_1⟩ := at_T33 HR0.out x16_5 p250 q250
                                                  cases e250
                                                  replace hx250_0 := (HB.out.cell (World.block_lt_of_cell? w _ hx250_0)).trans hx250_0
                                                  replace hx250_1 := (HB.out.cell (World.block_lt_of_cell? w _ hx250_1)).trans hx250_1
                                                  replace p250 := eq_true p250
                                                  replace q250 := eq_true q250
                                                  have p251 : 0 ≤ (x16_5 : Int) := of_decide_eq_true (by first | (with_reducible assumption) | assumption)
                                                  have q251 : x16_5 < (l1.length : Int) := of_decide_eq_true (by first | (with_reducible assumption) | assumption)
                                                  obtain ⟨ad251, e251, hx251_0⟩ := Kd.at_bool HR1.out x16_5 p251 q251
                                                  (try rw [← Nbq53.out] at hx251_0)
                                                  cases e251
                                                  replace hx251_0 := (HB.out.cell (World.block_lt_of_cell? w _ hx251_0)).trans hx251_0
                                                  replace p251 := eq_true p251
                                                  replace q251 := eq_true q251
                                                  go_wp2
                                                  repeat (go_quiet (fail); try go_wp2)
                                                  go_roundg k5
                                                  case measure => have := HJ5.out; have := HK2.out; have := HJ30.out; have := HK4.out; have := HK5.out; omega
                                                  case rel => exact ⟨(wrap64 (x16_5 + 1)), (wrap64 (x17_4 + 1)), (wrap64 (x94_4 + 1)), (by first | rfl | (simp; done) | (simp [*]; done)), (by first | rfl | (simp; done) | (simp [*]; done)), (by first | rfl | (simp; done) | (simp [*]; done)), H', ⟨by have := HJ5.out; have := HK2.out; have := HJ30.out; have := HK4.out; have := HK5.out; omega⟩, ⟨by (with_reducible repeat (first | apply Kd.R_alloc | apply Kd.R_drewN | apply Kd.R_drew)); exact HO_92.out⟩, ⟨by (with_reducible repeat (first | apply Kd.R_alloc | apply Kd.R_drewN | apply Kd.R_drew)); exact HO_246001.out⟩, ⟨by (with_reducible repeat (first | refine blk_drewN ?_ _ | refine blk_drew ?_ | refine blk_alloc ?_ _)); exact BK245.out⟩, ⟨by repeat (first | (with_reducible first | exact HB.out | apply below_alloc | apply pw_below_drewN | apply below_drew1 | refine below_set ?_ GE245.out) | exact HB.out)⟩⟩
                                              · replace c54 := Bool.eq_false_iff.mpr c54
                                                subst c54
                                                have H1 : (vesperslaw21_BestMost.l2 k5 l0 l1 a2 (wrap64 (x16_5 + 1)) x17_4 (rd t241 x94_4) t241 (t241.length : Int) x94_4) = some r := by rw [if_neg (show ¬ (false = true) by decide)] at H; exact H
                                                clear H
                                                have H := H1
                                                clear H1
                                                have H' := Aside0.mk H
                                                clear H
                                                have p250 : 0 ≤ (x16_5 : Int) := of_decide_eq_true (by first | (with_reducible assumption) | assumption)
                                                have q250 : x16_5 < (l0.length : Int) := of_decide_eq_true (by first | (with_reducible assumption) | assumption)
                                                obtain ⟨ad250, e250, hx250_0, hx250_1⟩ := at_T33 HR0.out x16_5 p250 q250
                                                cases e250
                                                replace hx250_0 := (HB.out.cell (World.block_lt_of_cell? w _ hx250_0)).trans hx250_0
                                                replace hx250_1 := (HB.out.cell (World.block_lt_of_cell? w _ hx250_1)).trans hx250_1
                                                replace p250 := eq_true p250
                                                replace q250 := eq_true q250
                                                have p251 : 0 ≤ (x16_5 : Int) := of_decide_eq_true (by first | (with_reducible assumption) | assumption)
                                                have q251 : x16_5 < (l1.length : Int) := of_decide_eq_true (by first | (with_reducible assumption) | assumption)
                                                obtain ⟨ad251, e251, hx251_0⟩ := Kd.at_bool HR1.out x16_5 p251 q251
                                                (try rw [← Nbq53.out] at hx251_0)
                                                cases e251
                                                replace hx251_0 := (HB.out.cell (World.block_lt_of_cell? w _ hx251_0)).trans hx251_0
                                                replace p251 := eq_true p251
                                                replace q251 := eq_true q251
                                                go_wp2
                                                repeat (go_quiet (fail); try go_wp2)
                                                go_roundg k5
                                                case measure => have := HJ5.out; have := HK2.out; have := HJ30.out; have := HK4.out; have := HK5.out; omega
                                                case rel => exact ⟨(wrap64 (x16_5 + 1)), (by first | rfl | (simp; done) | (simp [*]; done)), H', ⟨by have := HJ5.out; have := HK2.out; have := HJ30.out; have := HK4.out; have := HK5.out; omega⟩, ⟨by (with_reducible repeat (first | apply Kd.R_alloc | apply Kd.R_drewN | apply Kd.R_drew)); exact HO_92.out⟩, ⟨by (with_reducible repeat (first | apply Kd.R_alloc | apply Kd.R_drewN | apply Kd.R_drew)); exact HO_246001.out⟩, ⟨by (with_reducible repeat (first | refine blk_drewN ?_ _ | refine blk_drew ?_ | refine blk_alloc ?_ _)); exact BK245.out⟩, ⟨by repeat (first | (with_reducible first | exact HB.out | apply below_alloc | apply pw_below_drewN | apply below_drew1 | refine below_set ?_ GE245.out) | exact HB.out)⟩⟩
                                            · rw [if_neg c52] at H
                                              exact absurd H (by simp)
                                        · rw [if_neg c50] at H
                                          have c50b0 : (((rd_T33 l0 x16_5).f0) == (rd t241 x94_4)) = false := beq_eq_false_iff_ne.mpr c50
                                          have c50b1 : (((rd_T33 l0 x16_5).f0) != (rd t241 x94_4)) = true := bne_iff_ne.mpr c50
                                          have H' := Aside0.mk H
                                          clear H
                                          have p250 : 0 ≤ (x16_5 : Int) := of_decide_eq_true (by first | (with_reducible assumption) | assumption)
                                          have q250 : x16_5 < (l0.length : Int) := of_decide_eq_true (by first | (with_reducible assumption) | assumption)
                                          obtain ⟨ad250, e250, hx250_0, hx250_1⟩ := at_T33 HR0.out x16_5 p250 q250
                                          cases e250
                                          replace hx250_0 := (HB.out.cell (World.block_lt_of_cell? w _ hx250_0)).trans hx250_0
                                          replace hx250_1 := (HB.out.cell (World.block_lt_of_cell? w _ hx250_1)).trans hx250_1
                                          replace p250 := eq_true p250
                                          replace q250 := eq_true q250
                                          go_wp2
                                          repeat (go_quiet (fail); try go_wp2)
                                          go_roundg k5
                                          case measure => have := HJ5.out; have := HK2.out; have := HJ30.out; have := HK4.out; have := HK5.out; omega
                                          case rel => exact ⟨(wrap64 (x16_5 + 1)), (by first | rfl | (simp; done) | (simp [*]; done)), H', ⟨by have := HJ5.out; have := HK2.out; have := HJ30.out; have := HK4.out; have := HK5.out; omega⟩, ⟨by (with_reducible repeat (first | apply Kd.R_alloc | apply Kd.R_drewN | apply Kd.R_drew)); exact HO_92.out⟩, ⟨by (with_reducible repeat (first | apply Kd.R_alloc | apply Kd.R_drewN | apply Kd.R_drew)); exact HO_246001.out⟩, ⟨by (with_reducible repeat (first | refine blk_drewN ?_ _ | refine blk_drew ?_ | refine blk_alloc ?_ _)); exact BK245.out⟩, ⟨by repeat (first | (with_reducible first | exact HB.out | apply below_alloc | apply pw_below_drewN | apply below_drew1 | refine below_set ?_ GE245.out) | exact HB.out)⟩⟩
                                      · rw [if_neg c49] at H
                                        exact absurd H (by simp)
                                    · rw [if_neg c48] at H
                                      have c48b0 : decide (x16_5 < (l0.length : Int)) = false := decide_eq_false c48
                                      clear c48
                                      by_cases c56 : x16_5 = (l0.length : Int)
                                      · rw [if_pos c56] at H
                                        have c56b0 : (x16_5 == (l0.length : Int)) = true := beq_iff_eq.mpr c56
                                        have c56b1 : (x16_5 != (l0.length : Int)) = false := bne_eq_false_iff_eq.mpr c56
                                        clear c56
                                        obtain rfl := Option.some.inj H
                                        go_wp2
                                        repeat (go_quiet (fail); try go_wp2)
                                        go_ret
                                        exact ⟨by first | rfl | (simp [errW_none, errW_some] <;> rfl) | (simp [*, errW_none, errW_some] <;> rfl) | (simp only [IntWalk.i64_left]; rfl), by repeat (first | (with_reducible first | exact HB.out | apply below_alloc | apply pw_below_drewN | apply below_drew1 | refine below_set ?_ GE245.out) | exact HB.out)⟩
                                      · rw [if_neg c56] at H
                                        have c56b0 : (x16_5 == (l0.length : Int)) = false := beq_eq_false_iff_ne.mpr c56
                                        have c56b1 : (x16_5 != (l0.length : Int)) = true := bne_iff_ne.mpr c56
                                        have H' := Aside0.mk H
                                        clear H
                                        go_wp2
                                        repeat (go_quiet (fail); try go_wp2)
                                        go_roundg k5
                                        case measure => have := HJ5.out; have := HK2.out; have := HJ30.out; have := HK4.out; have := HK5.out; omega
                                        case rel => exact ⟨(wrap64 (x16_5 + 1)), (wrap64 (x17_4 + 1)), (wrap64 (x94_4 + 1)), (by first | rfl | (simp; done) | (simp [*]; done)), (by first | rfl | (simp; done) | (simp [*]; done)), (by first | rfl | (simp; done) | (simp [*]; done)), H', ⟨by have := HJ5.out; have := HK2.out; have := HJ30.out; have := HK4.out; have := HK5.out; omega⟩, ⟨by (with_reducible repeat (first | apply Kd.R_alloc | apply Kd.R_drewN | apply Kd.R_drew)); exact HO_92.out⟩, ⟨by (with_reducible repeat (first | apply Kd.R_alloc | apply Kd.R_drewN | apply Kd.R_drew)); exact HO_246001.out⟩, ⟨by (with_reducible repeat (first | refine blk_drewN ?_ _ | refine blk_drew ?_ | refine blk_alloc ?_ _)); exact BK245.out⟩, ⟨by repeat (first | (with_reducible first | exact HB.out | apply below_alloc | apply pw_below_drewN | apply below_drew1 | refine below_set ?_ GE245.out) | exact HB.out)⟩⟩
                              · rw [if_neg c47] at H
                                exact absurd H (by simp)
                            · rw [if_neg c46] at H
                              exact absurd H (by simp)
                          · rw [if_neg c45] at H
                            have c45b0 : decide (x94_4 < (t241.length : Int)) = false := decide_eq_false c45
                            clear c45
                            replace H := Option.bind_eq_some_iff.mp H
                            obtain ⟨t248, A570, H⟩ := H
                            replace H : (if t248 = true then (if a2 < 0 then (some true) else (some (decide (x17_4 ≤ a2)))) else (some false)) = some r := H
                            have A57 := Aside0.mk A570
                            clear A570
                            by_cases c58 : t248 = true
                            · subst c58
                              have H1 : (if a2 < 0 then (some true) else (some (decide (x17_4 ≤ a2)))) = some r := by rw [if_pos rfl] at H; exact H
                              clear H
                              have H := H1
                              clear H1
                              by_cases c59 : a2 < 0
                              · rw [if_pos c59] at H
                                have c59b0 : decide (a2 < 0) = true := decide_eq_true c59
                                clear c59
                                obtain rfl := Option.some.inj H
                                go_wp2_with (first | (go_at_call 7; (with_reducible refine (vesperslaw21_fixed.calls  true _ A57.out).mono ?_); rintro e w60 ⟨rfl, hb⟩; have n0_ := Aside0.mk (Kd.R_below (by (with_reducible repeat (first | apply Kd.R_alloc | apply Kd.R_drewN | apply Kd.R_drew)); exact HO_92.out) hb); have n1_ := Aside0.mk (Kd.R_below (by (with_reducible repeat (first | apply Kd.R_alloc | apply Kd.R_drewN | apply Kd.R_drew)); exact HO_246001.out) hb); have n2_ := Aside0.mk (blk_below (g := gb245) (o := .cells #[.int .i64 t240, .slice Ao22 t241.length co22, .int .i64 t244] 28 (0, 0)) (by (with_reducible repeat (first | refine blk_drewN ?_ _ | refine blk_drew ?_ | refine blk_alloc ?_ _)); exact BK245.out) hb); have n3_ := Aside0.mk (below_step (by repeat (first | (with_reducible first | exact HB.out | apply below_alloc | apply pw_below_drewN | apply below_drew1 | refine below_set ?_ GE245.out) | exact HB.out)) hb); clear HO_92; clear HO_246001; clear BK245; clear HB; have HO_92 := n0_; have HO_246001 := n1_; have BK245 := n2_; have HB := n3_; clear n0_ n1_ n2_ n3_; (try clear hb); (try clear hb2); (try clear hk); (try clear hi)))
                                repeat (go_quiet (first | (go_at_call 7; (with_reducible refine (vesperslaw21_fixed.calls  true _ A57.out).mono ?_); rintro e w60 ⟨rfl, hb⟩; have n0_ := Aside0.mk (Kd.R_below (by (with_reducible repeat (first | apply Kd.R_alloc | apply Kd.R_drewN | apply Kd.R_drew)); exact HO_92.out) hb); have n1_ := Aside0.mk (Kd.R_below (by (with_reducible repeat (first | apply Kd.R_alloc | apply Kd.R_drewN | apply Kd.R_drew)); exact HO_246001.out) hb); have n2_ := Aside0.mk (blk_below (g := gb245) (o := .cells #[.int .i64 t240, .slice Ao22 t241.length co22, .int .i64 t244] 28 (0, 0)) (by (with_reducible repeat (first | refine blk_drewN ?_ _ | refine blk_drew ?_ | refine blk_alloc ?_ _)); exact BK245.out) hb); have n3_ := Aside0.mk (below_step (by repeat (first | (with_reducible first | exact HB.out | apply below_alloc | apply pw_below_drewN | apply below_drew1 | refine below_set ?_ GE245.out) | exact HB.out)) hb); clear HO_92; clear HO_246001; clear BK245; clear HB; have HO_92 := n0_; have HO_246001 := n1_; have BK245 := n2_; have HB := n3_; clear n0_ n1_ n2_ n3_; (try clear hb); (try clear hb2); (try clear hk); (try clear hi))); try go_wp2_with (first | (go_at_call 7; (with_reducible refine (vesperslaw21_fixed.calls  true _ A57.out).mono ?_); rintro e w60 ⟨rfl, hb⟩; have n0_ := Aside0.mk (Kd.R_below (by (with_reducible repeat (first | apply Kd.R_alloc | apply Kd.R_drewN | apply Kd.R_drew)); exact HO_92.out) hb); have n1_ := Aside0.mk (Kd.R_below (by (with_reducible repeat (first | apply Kd.R_alloc | apply Kd.R_drewN | apply Kd.R_drew)); exact HO_246001.out) hb); have n2_ := Aside0.mk (blk_below (g := gb245) (o := .cells #[.int .i64 t240, .slice Ao22 t241.length co22, .int .i64 t244] 28 (0, 0)) (by (with_reducible repeat (first | refine blk_drewN ?_ _ | refine blk_drew ?_ | refine blk_alloc ?_ _)); exact BK245.out) hb); have n3_ := Aside0.mk (below_step (by repeat (first | (with_reducible first | exact HB.out | apply below_alloc | apply pw_below_drewN | apply below_drew1 | refine below_set ?_ GE245.out) | exact HB.out)) hb); clear HO_92; clear HO_246001; clear BK245; clear HB; have HO_92 := n0_; have HO_246001 := n1_; have BK245 := n2_; have HB := n3_; clear n0_ n1_ n2_ n3_; (try clear hb); (try clear hb2); (try clear hk); (try clear hi))))
                                go_ret
                                exact ⟨by first | rfl | (simp [errW_none, errW_some] <;> rfl) | (simp [*, errW_none, errW_some] <;> rfl) | (simp only [IntWalk.i64_left]; rfl), by repeat (first | (with_reducible first | exact HB.out | apply below_alloc | apply pw_below_drewN | apply below_drew1 | refine below_set ?_ GE245.out) | exact HB.out)⟩
                              · rw [if_neg c59] at H
                                have c59b0 : decide (a2 < 0) = false := decide_eq_false c59
                                clear c59
                                obtain rfl := Option.some.inj H
                                go_wp2_with (first | (go_at_call 7; (with_reducible refine (vesperslaw21_fixed.calls  true _ A57.out).mono ?_); rintro e w61 ⟨rfl, hb⟩; have n0_ := Aside0.mk (Kd.R_below (by (with_reducible repeat (first | apply Kd.R_alloc | apply Kd.R_drewN | apply Kd.R_drew)); exact HO_92.out) hb); have n1_ := Aside0.mk (Kd.R_below (by (with_reducible repeat (first | apply Kd.R_alloc | apply Kd.R_drewN | apply Kd.R_drew)); exact HO_246001.out) hb); have n2_ := Aside0.mk (blk_below (g := gb245) (o := .cells #[.int .i64 t240, .slice Ao22 t241.length co22, .int .i64 t244] 28 (0, 0)) (by (with_reducible repeat (first | refine blk_drewN ?_ _ | refine blk_drew ?_ | refine blk_alloc ?_ _)); exact BK245.out) hb); have n3_ := Aside0.mk (below_step (by repeat (first | (with_reducible first | exact HB.out | apply below_alloc | apply pw_below_drewN | apply below_drew1 | refine below_set ?_ GE245.out) | exact HB.out)) hb); clear HO_92; clear HO_246001; clear BK245; clear HB; have HO_92 := n0_; have HO_246001 := n1_; have BK245 := n2_; have HB := n3_; clear n0_ n1_ n2_ n3_; (try clear hb); (try clear hb2); (try clear hk); (try clear hi)))
                                repeat (go_quiet (first | (go_at_call 7; (with_reducible refine (vesperslaw21_fixed.calls  true _ A57.out).mono ?_); rintro e w61 ⟨rfl, hb⟩; have n0_ := Aside0.mk (Kd.R_below (by (with_reducible repeat (first | apply Kd.R_alloc | apply Kd.R_drewN | apply Kd.R_drew)); exact HO_92.out) hb); have n1_ := Aside0.mk (Kd.R_below (by (with_reducible repeat (first | apply Kd.R_alloc | apply Kd.R_drewN | apply Kd.R_drew)); exact HO_246001.out) hb); have n2_ := Aside0.mk (blk_below (g := gb245) (o := .cells #[.int .i64 t240, .slice Ao22 t241.length co22, .int .i64 t244] 28 (0, 0)) (by (with_reducible repeat (first | refine blk_drewN ?_ _ | refine blk_drew ?_ | refine blk_alloc ?_ _)); exact BK245.out) hb); have n3_ := Aside0.mk (below_step (by repeat (first | (with_reducible first | exact HB.out | apply below_alloc | apply pw_below_drewN | apply below_drew1 | refine below_set ?_ GE245.out) | exact HB.out)) hb); clear HO_92; clear HO_246001; clear BK245; clear HB; have HO_92 := n0_; have HO_246001 := n1_; have BK245 := n2_; have HB := n3_; clear n0_ n1_ n2_ n3_; (try clear hb); (try clear hb2); (try clear hk); (try clear hi))); try go_wp2_with (first | (go_at_call 7; (with_reducible refine (vesperslaw21_fixed.calls  true _ A57.out).mono ?_); rintro e w61 ⟨rfl, hb⟩; have n0_ := Aside0.mk (Kd.R_below (by (with_reducible repeat (first | apply Kd.R_alloc | apply Kd.R_drewN | apply Kd.R_drew)); exact HO_92.out) hb); have n1_ := Aside0.mk (Kd.R_below (by (with_reducible repeat (first | apply Kd.R_alloc | apply Kd.R_drewN | apply Kd.R_drew)); exact HO_246001.out) hb); have n2_ := Aside0.mk (blk_below (g := gb245) (o := .cells #[.int .i64 t240, .slice Ao22 t241.length co22, .int .i64 t244] 28 (0, 0)) (by (with_reducible repeat (first | refine blk_drewN ?_ _ | refine blk_drew ?_ | refine blk_alloc ?_ _)); exact BK245.out) hb); have n3_ := Aside0.mk (below_step (by repeat (first | (with_reducible first | exact HB.out | apply below_alloc | apply pw_below_drewN | apply below_drew1 | refine below_set ?_ GE245.out) | exact HB.out)) hb); clear HO_92; clear HO_246001; clear BK245; clear HB; have HO_92 := n0_; have HO_246001 := n1_; have BK245 := n2_; have HB := n3_; clear n0_ n1_ n2_ n3_; (try clear hb); (try clear hb2); (try clear hk); (try clear hi))))
                                go_ret
                                exact ⟨by first | rfl | (simp [errW_none, errW_some] <;> rfl) | (simp [*, errW_none, errW_some] <;> rfl) | (simp only [IntWalk.i64_left]; rfl), by repeat (first | (with_reducible first | exact HB.out | apply below_alloc | apply pw_below_drewN | apply below_drew1 | refine below_set ?_ GE245.out) | exact HB.out)⟩
                            · replace c58 := Bool.eq_false_iff.mpr c58
                              subst c58
                              have H1 : (some false) = some r := by rw [if_neg (show ¬ (false = true) by decide)] at H; exact H
                              clear H
                              have H := H1
                              clear H1
                              obtain rfl := Option.some.inj H
                              go_wp2_with (first | (go_at_call 7; (with_reducible refine (vesperslaw21_fixed.calls  false _ A57.out).mono ?_); rintro e w62 ⟨rfl, hb⟩; have n0_ := Aside0.mk (Kd.R_below (by (with_reducible repeat (first | apply Kd.R_alloc | apply Kd.R_drewN | apply Kd.R_drew)); exact HO_92.out) hb); have n1_ := Aside0.mk (Kd.R_below (by (with_reducible repeat (first | apply Kd.R_alloc | apply Kd.R_drewN | apply Kd.R_drew)); exact HO_246001.out) hb); have n2_ := Aside0.mk (blk_below (g := gb245) (o := .cells #[.int .i64 t240, .slice Ao22 t241.length co22, .int .i64 t244] 28 (0, 0)) (by (with_reducible repeat (first | refine blk_drewN ?_ _ | refine blk_drew ?_ | refine blk_alloc ?_ _)); exact BK245.out) hb); have n3_ := Aside0.mk (below_step (by repeat (first | (with_reducible first | exact HB.out | apply below_alloc | apply pw_below_drewN | apply below_drew1 | refine below_set ?_ GE245.out) | exact HB.out)) hb); clear HO_92; clear HO_246001; clear BK245; clear HB; have HO_92 := n0_; have HO_246001 := n1_; have BK245 := n2_; have HB := n3_; clear n0_ n1_ n2_ n3_; (try clear hb); (try clear hb2); (try clear hk); (try clear hi)))
                              repeat (go_quiet (first | (go_at_call 7; (with_reducible refine (vesperslaw21_fixed.calls  false _ A57.out).mono ?_); rintro e w62 ⟨rfl, hb⟩; have n0_ := Aside0.mk (Kd.R_below (by (with_reducible repeat (first | apply Kd.R_alloc | apply Kd.R_drewN | apply Kd.R_drew)); exact HO_92.out) hb); have n1_ := Aside0.mk (Kd.R_below (by (with_reducible repeat (first | apply Kd.R_alloc | apply Kd.R_drewN | apply Kd.R_drew)); exact HO_246001.out) hb); have n2_ := Aside0.mk (blk_below (g := gb245) (o := .cells #[.int .i64 t240, .slice Ao22 t241.length co22, .int .i64 t244] 28 (0, 0)) (by (with_reducible repeat (first | refine blk_drewN ?_ _ | refine blk_drew ?_ | refine blk_alloc ?_ _)); exact BK245.out) hb); have n3_ := Aside0.mk (below_step (by repeat (first | (with_reducible first | exact HB.out | apply below_alloc | apply pw_below_drewN | apply below_drew1 | refine below_set ?_ GE245.out) | exact HB.out)) hb); clear HO_92; clear HO_246001; clear BK245; clear HB; have HO_92 := n0_; have HO_246001 := n1_; have BK245 := n2_; have HB := n3_; clear n0_ n1_ n2_ n3_; (try clear hb); (try clear hb2); (try clear hk); (try clear hi))); try go_wp2_with (first | (go_at_call 7; (with_reducible refine (vesperslaw21_fixed.calls  false _ A57.out).mono ?_); rintro e w62 ⟨rfl, hb⟩; have n0_ := Aside0.mk (Kd.R_below (by (with_reducible repeat (first | apply Kd.R_alloc | apply Kd.R_drewN | apply Kd.R_drew)); exact HO_92.out) hb); have n1_ := Aside0.mk (Kd.R_below (by (with_reducible repeat (first | apply Kd.R_alloc | apply Kd.R_drewN | apply Kd.R_drew)); exact HO_246001.out) hb); have n2_ := Aside0.mk (blk_below (g := gb245) (o := .cells #[.int .i64 t240, .slice Ao22 t241.length co22, .int .i64 t244] 28 (0, 0)) (by (with_reducible repeat (first | refine blk_drewN ?_ _ | refine blk_drew ?_ | refine blk_alloc ?_ _)); exact BK245.out) hb); have n3_ := Aside0.mk (below_step (by repeat (first | (with_reducible first | exact HB.out | apply below_alloc | apply pw_below_drewN | apply below_drew1 | refine below_set ?_ GE245.out) | exact HB.out)) hb); clear HO_92; clear HO_246001; clear BK245; clear HB; have HO_92 := n0_; have HO_246001 := n1_; have BK245 := n2_; have HB := n3_; clear n0_ n1_ n2_ n3_; (try clear hb); (try clear hb2); (try clear hk); (try clear hi))))
                              go_ret
                              exact ⟨by first | rfl | (simp [errW_none, errW_some] <;> rfl) | (simp [*, errW_none, errW_some] <;> rfl) | (simp only [IntWalk.i64_left]; rfl), by repeat (first | (with_reducible first | exact HB.out | apply below_alloc | apply pw_below_drewN | apply below_drew1 | refine below_set ?_ GE245.out) | exact HB.out)⟩

end Go.Proofs.Ythpibikfecjoiaa.Own
