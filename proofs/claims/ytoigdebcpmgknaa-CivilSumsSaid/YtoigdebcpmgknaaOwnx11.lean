-- own text: made by a program of this session out of the plain functions' print
import Derived.Test.YtoigdebcpmgknaaOwnx0
import Derived.Test.YtoigdebcpmgknaaOwnx2
import Derived.Test.YtoigdebcpmgknaaOwnx10
namespace Go.Proofs.Ytoigdebcpmgknaa.Own
open Go.RowKit Go.Proofs.YtoigdebcpmgknaaW.PrintWords Go.Proofs.YtoigdebcpmgknaaW.PrintLast Go.Proofs.YtoigdebcpmgknaaW.PrintMore
attribute [local go_sem] max2_int min2_int max_two min_two max_three min_three max_four min_four   -- for this text's walks alone
set_option linter.unusedVariables false
set_option linter.unusedSimpArgs false

/-! ### vesperslaw01_CivilSums: function 9 -/
mutual
def vesperslaw01_CivilSums.j0 : Nat → Int → Int → Bool → Option (Bool)
  | 0, _, _, _ => none
  | k + 1, x0, x1, x56 => if x56 = true then (some false) else ((civil_Mul.f k x0 x1).bind fun bt252 => (if x0 = 0 then (vesperslaw01_CivilSums.j1 k x0 x1 bt252.1 bt252.2 true) else (vesperslaw01_CivilSums.j1 k x0 x1 bt252.1 bt252.2 (x1 == 0))))
def vesperslaw01_CivilSums.j1 : Nat → Int → Int → Int → Bool → Bool → Option (Bool)
  | 0, _, _, _, _, _ => none
  | k + 1, x0, x1, x7, x8, x68 => if x68 = true then ((vesperslaw01_fixed.f k).bind fun t254 => (if t254 = true then (if x8 = true then (some (x7 == 0)) else (some false)) else (some false))) else (if x0 = (-9223372036854775808) then (vesperslaw01_CivilSums.j2 k x0 x1 x7 x8 true) else (vesperslaw01_CivilSums.j2 k x0 x1 x7 x8 (x1 == (-9223372036854775808))))
def vesperslaw01_CivilSums.j2 : Nat → Int → Int → Int → Bool → Bool → Option (Bool)
  | 0, _, _, _, _, _ => none
  | k + 1, x0, x1, x7, x8, x82 => if x82 = true then (if x0 = 1 then ((vesperslaw01_fixed.f k).bind fun t255 => (if t255 = true then (if (x8 == true) = true then (some (x7 == (-9223372036854775808))) else (some false)) else (some false))) else ((vesperslaw01_fixed.f k).bind fun t256 => (if t256 = true then (if (x8 == (x1 == 1)) = true then (if x1 = 1 then (some (x7 == (-9223372036854775808))) else (some true)) else (some false)) else (some false)))) else (if x1 = 0 then (none) else (if (wrap64 (Int.tdiv (wrap64 (x0 * x1)) x1)) = x0 then (if (wrap64 (x0 * x1)) = (-9223372036854775808) then (if ((decide (x0 < 0)) != (decide (x1 < 0))) = true then ((vesperslaw01_fixed.f k).bind fun t257 => (if t257 = true then (if (x8 == ((wrap64 (Int.tdiv (wrap64 (x0 * x1)) x1)) == x0)) = true then (if ((wrap64 (Int.tdiv (wrap64 (x0 * x1)) x1)) = x0) then (some (x7 == (wrap64 (x0 * x1)))) else (some true)) else (some false)) else (some false))) else ((vesperslaw01_fixed.f k).bind fun t258 => (if t258 = true then (if (x8 == false) = true then (some true) else (some false)) else (some false)))) else ((vesperslaw01_fixed.f k).bind fun t259 => (if t259 = true then (if (x8 == true) = true then (some (x7 == (wrap64 (x0 * x1)))) else (some false)) else (some false)))) else (if (wrap64 (x0 * x1)) = (-9223372036854775808) then (if ((decide (x0 < 0)) != (decide (x1 < 0))) = true then ((vesperslaw01_fixed.f k).bind fun t260 => (if t260 = true then (if (x8 == ((wrap64 (Int.tdiv (wrap64 (x0 * x1)) x1)) == x0)) = true then (if ((wrap64 (Int.tdiv (wrap64 (x0 * x1)) x1)) = x0) then (some (x7 == (wrap64 (x0 * x1)))) else (some true)) else (some false)) else (some false))) else ((vesperslaw01_fixed.f k).bind fun t261 => (if t261 = true then (if (x8 == false) = true then (some true) else (some false)) else (some false)))) else ((vesperslaw01_fixed.f k).bind fun t262 => (if t262 = true then (if (x8 == false) = true then (some true) else (some false)) else (some false))))))
end
def vesperslaw01_CivilSums.f (k : Nat) (a0 : Int) (a1 : Int) : Option (Bool) := (civil_Add.f a0 a1).bind fun bt250 => (if a1 ≥ 0 then (if (wrap64 (a0 + a1)) ≥ a0 then (if (bt250.2 != true) = true then (vesperslaw01_CivilSums.j0 k a0 a1 true) else (if bt250.2 = true then (if bt250.1 = (wrap64 (a0 + a1)) then (vesperslaw01_CivilSums.j0 k a0 a1 false) else (vesperslaw01_CivilSums.j0 k a0 a1 true)) else (vesperslaw01_CivilSums.j0 k a0 a1 (bt250.1 != 0)))) else (if a1 < 0 then (if (bt250.2 != (decide ((wrap64 (a0 + a1)) < a0))) = true then (vesperslaw01_CivilSums.j0 k a0 a1 true) else (if bt250.2 = true then (if bt250.1 = (wrap64 (a0 + a1)) then (vesperslaw01_CivilSums.j0 k a0 a1 false) else (vesperslaw01_CivilSums.j0 k a0 a1 true)) else (vesperslaw01_CivilSums.j0 k a0 a1 (bt250.1 != 0)))) else (if (bt250.2 != false) = true then (vesperslaw01_CivilSums.j0 k a0 a1 true) else (if bt250.2 = true then (if bt250.1 = (wrap64 (a0 + a1)) then (vesperslaw01_CivilSums.j0 k a0 a1 false) else (vesperslaw01_CivilSums.j0 k a0 a1 true)) else (vesperslaw01_CivilSums.j0 k a0 a1 (bt250.1 != 0)))))) else (if a1 < 0 then (if (bt250.2 != (decide ((wrap64 (a0 + a1)) < a0))) = true then (vesperslaw01_CivilSums.j0 k a0 a1 true) else (if bt250.2 = true then (if bt250.1 = (wrap64 (a0 + a1)) then (vesperslaw01_CivilSums.j0 k a0 a1 false) else (vesperslaw01_CivilSums.j0 k a0 a1 true)) else (vesperslaw01_CivilSums.j0 k a0 a1 (bt250.1 != 0)))) else (if (bt250.2 != false) = true then (vesperslaw01_CivilSums.j0 k a0 a1 true) else (if bt250.2 = true then (if bt250.1 = (wrap64 (a0 + a1)) then (vesperslaw01_CivilSums.j0 k a0 a1 false) else (vesperslaw01_CivilSums.j0 k a0 a1 true)) else (vesperslaw01_CivilSums.j0 k a0 a1 (bt250.1 != 0))))))
theorem vesperslaw01_CivilSums.mono_l : ∀ k, (∀ y0 y1 y2, LeO (vesperslaw01_CivilSums.j0 k y0 y1 y2) (vesperslaw01_CivilSums.j0 (k + 1) y0 y1 y2)) ∧ (∀ y0 y1 y2 y3 y4, LeO (vesperslaw01_CivilSums.j1 k y0 y1 y2 y3 y4) (vesperslaw01_CivilSums.j1 (k + 1) y0 y1 y2 y3 y4)) ∧ (∀ y0 y1 y2 y3 y4, LeO (vesperslaw01_CivilSums.j2 k y0 y1 y2 y3 y4) (vesperslaw01_CivilSums.j2 (k + 1) y0 y1 y2 y3 y4))
  | 0 => ⟨fun _ _ _ r h => by simp [vesperslaw01_CivilSums.j0] at h, fun _ _ _ _ _ r h => by simp [vesperslaw01_CivilSums.j1] at h, fun _ _ _ _ _ r h => by simp [vesperslaw01_CivilSums.j2] at h⟩
  | k + 1 => by
    obtain ⟨ih0, ih1, ih2⟩ := vesperslaw01_CivilSums.mono_l k
    refine ⟨?_, ?_, ?_⟩
    · intro y0 y1 y2
      unfold vesperslaw01_CivilSums.j0
      repeat' first
      | (with_reducible exact ih0 _ _ _)
      | (with_reducible exact ih1 _ _ _ _ _)
      | (with_reducible exact ih2 _ _ _ _ _)
      | (with_reducible exact civil_Mul.mono _ _ _)
      | (with_reducible exact vesperslaw01_fixed.mono _)
      | (with_reducible exact LeO.refl _)
      | (with_reducible exact LeO.none _)
      | (with_reducible refine LeO.ite ?_ ?_)
      | (with_reducible refine LeO.bind ?_ (fun _ => ?_))
      | exact ih0 _ _ _
      | exact ih1 _ _ _ _ _
      | exact ih2 _ _ _ _ _
      | exact civil_Mul.mono _ _ _
      | exact vesperslaw01_fixed.mono _
      | exact LeO.none _
      | refine LeO.ite ?_ ?_
      | refine LeO.bind ?_ (fun _ => ?_)
    · intro y0 y1 y2 y3 y4
      unfold vesperslaw01_CivilSums.j1
      repeat' first
      | (with_reducible exact ih0 _ _ _)
      | (with_reducible exact ih1 _ _ _ _ _)
      | (with_reducible exact ih2 _ _ _ _ _)
      | (with_reducible exact civil_Mul.mono _ _ _)
      | (with_reducible exact vesperslaw01_fixed.mono _)
      | (with_reducible exact LeO.refl _)
      | (with_reducible exact LeO.none _)
      | (with_reducible refine LeO.ite ?_ ?_)
      | (with_reducible refine LeO.bind ?_ (fun _ => ?_))
      | exact ih0 _ _ _
      | exact ih1 _ _ _ _ _
      | exact ih2 _ _ _ _ _
      | exact civil_Mul.mono _ _ _
      | exact vesperslaw01_fixed.mono _
      | exact LeO.none _
      | refine LeO.ite ?_ ?_
      | refine LeO.bind ?_ (fun _ => ?_)
    · intro y0 y1 y2 y3 y4
      unfold vesperslaw01_CivilSums.j2
      repeat' first
      | (with_reducible exact ih0 _ _ _)
      | (with_reducible exact ih1 _ _ _ _ _)
      | (with_reducible exact ih2 _ _ _ _ _)
      | (with_reducible exact civil_Mul.mono _ _ _)
      | (with_reducible exact vesperslaw01_fixed.mono _)
      | (with_reducible exact LeO.refl _)
      | (with_reducible exact LeO.none _)
      | (with_reducible refine LeO.ite ?_ ?_)
      | (with_reducible refine LeO.bind ?_ (fun _ => ?_))
      | exact ih0 _ _ _
      | exact ih1 _ _ _ _ _
      | exact ih2 _ _ _ _ _
      | exact civil_Mul.mono _ _ _
      | exact vesperslaw01_fixed.mono _
      | exact LeO.none _
      | refine LeO.ite ?_ ?_
      | refine LeO.bind ?_ (fun _ => ?_)
theorem vesperslaw01_CivilSums.mono : ∀ a0 a1 k, LeO (vesperslaw01_CivilSums.f k a0 a1) (vesperslaw01_CivilSums.f (k + 1) a0 a1) := by
  intro a0 a1 k
  obtain ⟨ih0, ih1, ih2⟩ := vesperslaw01_CivilSums.mono_l k
  unfold vesperslaw01_CivilSums.f
  repeat' first
      | (with_reducible exact ih0 _ _ _)
      | (with_reducible exact ih1 _ _ _ _ _)
      | (with_reducible exact ih2 _ _ _ _ _)
      | (with_reducible exact civil_Mul.mono _ _ _)
      | (with_reducible exact vesperslaw01_fixed.mono _)
      | (with_reducible exact LeO.refl _)
      | (with_reducible exact LeO.none _)
      | (with_reducible refine LeO.ite ?_ ?_)
      | (with_reducible refine LeO.bind ?_ (fun _ => ?_))
      | exact ih0 _ _ _
      | exact ih1 _ _ _ _ _
      | exact ih2 _ _ _ _ _
      | exact civil_Mul.mono _ _ _
      | exact vesperslaw01_fixed.mono _
      | exact LeO.none _
      | refine LeO.ite ?_ ?_
      | refine LeO.bind ?_ (fun _ => ?_)
set_option maxHeartbeats 8000000 in
set_option maxRecDepth 100000 in
theorem vesperslaw01_CivilSums.calls (k : Nat) (a0 : Int) (a1 : Int) (r : Bool) (w : World) (h : vesperslaw01_CivilSums.f k a0 a1 = some r) :
    Calls Try.prog 9 #[.int .i64 a0, .int .i64 a1] w fun e w' => e = .returned (.bool r) ∧ Below w.heap.size w w' := by
  have HB := Aside0.mk (Below.refl w.heap.size w)
  have H : ((civil_Add.f a0 a1).bind fun bt250 => (if a1 ≥ 0 then (if (wrap64 (a0 + a1)) ≥ a0 then (if (bt250.2 != true) = true then (vesperslaw01_CivilSums.j0 k a0 a1 true) else (if bt250.2 = true then (if bt250.1 = (wrap64 (a0 + a1)) then (vesperslaw01_CivilSums.j0 k a0 a1 false) else (vesperslaw01_CivilSums.j0 k a0 a1 true)) else (vesperslaw01_CivilSums.j0 k a0 a1 (bt250.1 != 0)))) else (if a1 < 0 then (if (bt250.2 != (decide ((wrap64 (a0 + a1)) < a0))) = true then (vesperslaw01_CivilSums.j0 k a0 a1 true) else (if bt250.2 = true then (if bt250.1 = (wrap64 (a0 + a1)) then (vesperslaw01_CivilSums.j0 k a0 a1 false) else (vesperslaw01_CivilSums.j0 k a0 a1 true)) else (vesperslaw01_CivilSums.j0 k a0 a1 (bt250.1 != 0)))) else (if (bt250.2 != false) = true then (vesperslaw01_CivilSums.j0 k a0 a1 true) else (if bt250.2 = true then (if bt250.1 = (wrap64 (a0 + a1)) then (vesperslaw01_CivilSums.j0 k a0 a1 false) else (vesperslaw01_CivilSums.j0 k a0 a1 true)) else (vesperslaw01_CivilSums.j0 k a0 a1 (bt250.1 != 0)))))) else (if a1 < 0 then (if (bt250.2 != (decide ((wrap64 (a0 + a1)) < a0))) = true then (vesperslaw01_CivilSums.j0 k a0 a1 true) else (if bt250.2 = true then (if bt250.1 = (wrap64 (a0 + a1)) then (vesperslaw01_CivilSums.j0 k a0 a1 false) else (vesperslaw01_CivilSums.j0 k a0 a1 true)) else (vesperslaw01_CivilSums.j0 k a0 a1 (bt250.1 != 0)))) else (if (bt250.2 != false) = true then (vesperslaw01_CivilSums.j0 k a0 a1 true) else (if bt250.2 = true then (if bt250.1 = (wrap64 (a0 + a1)) then (vesperslaw01_CivilSums.j0 k a0 a1 false) else (vesperslaw01_CivilSums.j0 k a0 a1 true)) else (vesperslaw01_CivilSums.j0 k a0 a1 (bt250.1 != 0))))))) = some r := h
  clear h
  replace H := Option.bind_eq_some_iff.mp H
  obtain ⟨⟨t250, t251⟩, A30, H⟩ := H
  replace H : (if a1 ≥ 0 then (if (wrap64 (a0 + a1)) ≥ a0 then (if (t251 != true) = true then (vesperslaw01_CivilSums.j0 k a0 a1 true) else (if t251 = true then (if t250 = (wrap64 (a0 + a1)) then (vesperslaw01_CivilSums.j0 k a0 a1 false) else (vesperslaw01_CivilSums.j0 k a0 a1 true)) else (vesperslaw01_CivilSums.j0 k a0 a1 (t250 != 0)))) else (if a1 < 0 then (if (t251 != (decide ((wrap64 (a0 + a1)) < a0))) = true then (vesperslaw01_CivilSums.j0 k a0 a1 true) else (if t251 = true then (if t250 = (wrap64 (a0 + a1)) then (vesperslaw01_CivilSums.j0 k a0 a1 false) else (vesperslaw01_CivilSums.j0 k a0 a1 true)) else (vesperslaw01_CivilSums.j0 k a0 a1 (t250 != 0)))) else (if (t251 != false) = true then (vesperslaw01_CivilSums.j0 k a0 a1 true) else (if t251 = true then (if t250 = (wrap64 (a0 + a1)) then (vesperslaw01_CivilSums.j0 k a0 a1 false) else (vesperslaw01_CivilSums.j0 k a0 a1 true)) else (vesperslaw01_CivilSums.j0 k a0 a1 (t250 != 0)))))) else (if a1 < 0 then (if (t251 != (decide ((wrap64 (a0 + a1)) < a0))) = true then (vesperslaw01_CivilSums.j0 k a0 a1 true) else (if t251 = true then (if t250 = (wrap64 (a0 + a1)) then (vesperslaw01_CivilSums.j0 k a0 a1 false) else (vesperslaw01_CivilSums.j0 k a0 a1 true)) else (vesperslaw01_CivilSums.j0 k a0 a1 (t250 != 0)))) else (if (t251 != false) = true then (vesperslaw01_CivilSums.j0 k a0 a1 true) else (if t251 = true then (if t250 = (wrap64 (a0 + a1)) then (vesperslaw01_CivilSums.j0 k a0 a1 false) else (vesperslaw01_CivilSums.j0 k a0 a1 true)) else (vesperslaw01_CivilSums.j0 k a0 a1 (t250 != 0)))))) = some r := H
  have A3 := Aside0.mk A30
  clear A30
  have HC4 := Aside0.mk H
  clear H
  go_enter Try.func9, Try.ntmps9
  go_upto_region 2 with (first | ((with_reducible refine gate_callee (f := 25) rfl ?_); refine goesL_ (some 14) rfl rfl Try.func25 (by kernel_rfl) rfl #[.int .i64 a0, .int .i64 a1] rfl (by (try simp only [List.map_toArray, List.map_cons, List.map_nil]); first | done | rfl | (simp only [List.length_drop, List.length_take]; rfl)) ?_; (with_reducible refine (civil_Add.calls a0 a1 t250 t251 _ A3.out).mono ?_); rintro e w' ⟨rfl, ⟨nd, rfl⟩⟩; refine ⟨_, rfl, ?_⟩))
  (try simp only [Act.put, List.setIfInBounds_toArray, List.set_cons_zero, List.set_cons_succ])
  go_cut [56] (fun v56 wc => ∃ (kq : Nat) (x56_3 : Bool), v56 = .bool x56_3 ∧ Aside0 (vesperslaw01_CivilSums.j0 kq a0 a1 x56_3 = some r) ∧ Aside0 (kq ≤ k) ∧ Aside0 (Below w.heap.size w wc))
  case first =>
    have H := HC4.out
    clear HC4
    by_cases c5 : a1 ≥ 0
    · rw [if_pos c5] at H
      have c5b0 : decide (0 ≤ a1) = true := decide_eq_true c5
      clear c5
      (first | rw [c5b0] | (simp only [i64_w, i32_w]; rw [c5b0]) | skip)
      by_cases c6 : (wrap64 (a0 + a1)) ≥ a0
      · rw [if_pos c6] at H
        have c6b0 : decide (a0 ≤ (wrap64 (a0 + a1))) = true := decide_eq_true c6
        clear c6
        by_cases c7 : (t251 != true) = true
        · rw [if_pos c7] at H
          have c7b0 : (t251 != true) = true := c7
          (try (have c7b1 : decide (t251 = true) = false := by simpa using c7))
          (try (have c7b2 : (t251 == true) = false := by simpa using c7))
          (try (have c7b3 : ¬ (t251 = true) := by simpa using c7))
          clear c7
          have H' := Aside0.mk H
          clear H
          go_wp2
          go_meet
          case rel => exact ⟨_, (true), (by first | rfl | (simp; done) | (simp [*]; done)), H', ⟨by first | omega | exact Nat.le_refl _⟩, ⟨by repeat (first | (with_reducible first | exact HB.out | apply below_alloc | apply pw_below_drewN | apply below_drew1) | exact HB.out)⟩⟩
        · rw [if_neg c7] at H
          have c7b0 : (t251 != true) = false := by simpa using c7
          (try (have c7b1 : decide (t251 = true) = true := by simpa using c7))
          (try (have c7b2 : (t251 == true) = true := by simpa using c7))
          clear c7
          by_cases c8 : t251 = true
          · subst c8
            have H1 : (if t250 = (wrap64 (a0 + a1)) then (vesperslaw01_CivilSums.j0 k a0 a1 false) else (vesperslaw01_CivilSums.j0 k a0 a1 true)) = some r := by rw [if_pos rfl] at H; exact H
            clear H
            have H := H1
            clear H1
            by_cases c9 : t250 = (wrap64 (a0 + a1))
            · rw [if_pos c9] at H
              have c9b0 : (t250 == (wrap64 (a0 + a1))) = true := beq_iff_eq.mpr c9
              have c9b1 : (t250 != (wrap64 (a0 + a1))) = false := bne_eq_false_iff_eq.mpr c9
              clear c9
              have H' := Aside0.mk H
              clear H
              go_wp2
              go_meet
              case rel => exact ⟨_, (false), (by first | rfl | (simp; done) | (simp [*]; done)), H', ⟨by first | omega | exact Nat.le_refl _⟩, ⟨by repeat (first | (with_reducible first | exact HB.out | apply below_alloc | apply pw_below_drewN | apply below_drew1) | exact HB.out)⟩⟩
            · rw [if_neg c9] at H
              have c9b0 : (t250 == (wrap64 (a0 + a1))) = false := beq_eq_false_iff_ne.mpr c9
              have c9b1 : (t250 != (wrap64 (a0 + a1))) = true := bne_iff_ne.mpr c9
              have H' := Aside0.mk H
              clear H
              go_wp2
              go_meet
              case rel => exact ⟨_, (true), (by first | rfl | (simp; done) | (simp [*]; done)), H', ⟨by first | omega | exact Nat.le_refl _⟩, ⟨by repeat (first | (with_reducible first | exact HB.out | apply below_alloc | apply pw_below_drewN | apply below_drew1) | exact HB.out)⟩⟩
          · replace c8 := Bool.eq_false_iff.mpr c8
            subst c8
            have H1 : (vesperslaw01_CivilSums.j0 k a0 a1 (t250 != 0)) = some r := by rw [if_neg (show ¬ (false = true) by decide)] at H; exact H
            clear H
            have H := H1
            clear H1
            have H' := Aside0.mk H
            clear H
            go_wp2
            go_meet
            case rel => exact ⟨_, ((t250 != 0)), (by first | rfl | (simp; done) | (simp [*]; done)), H', ⟨by first | omega | exact Nat.le_refl _⟩, ⟨by repeat (first | (with_reducible first | exact HB.out | apply below_alloc | apply pw_below_drewN | apply below_drew1) | exact HB.out)⟩⟩
      · rw [if_neg c6] at H
        have c6b0 : decide (a0 ≤ (wrap64 (a0 + a1))) = false := decide_eq_false c6
        clear c6
        by_cases c10 : a1 < 0
        · rw [if_pos c10] at H
          have c10b0 : decide (a1 < 0) = true := decide_eq_true c10
          clear c10
          by_cases c11 : (t251 != (decide ((wrap64 (a0 + a1)) < a0))) = true
          · rw [if_pos c11] at H
            have c11b0 : (t251 != (decide ((wrap64 (a0 + a1)) < a0))) = true := c11
            (try (have c11b1 : decide (t251 = (decide ((wrap64 (a0 + a1)) < a0))) = false := by simpa using c11))
            (try (have c11b2 : (t251 == (decide ((wrap64 (a0 + a1)) < a0))) = false := by simpa using c11))
            (try (have c11b3 : ¬ (t251 = (decide ((wrap64 (a0 + a1)) < a0))) := by simpa using c11))
            clear c11
            have H' := Aside0.mk H
            clear H
            go_wp2
            go_meet
            case rel => exact ⟨_, (true), (by first | rfl | (simp; done) | (simp [*]; done)), H', ⟨by first | omega | exact Nat.le_refl _⟩, ⟨by repeat (first | (with_reducible first | exact HB.out | apply below_alloc | apply pw_below_drewN | apply below_drew1) | exact HB.out)⟩⟩
          · rw [if_neg c11] at H
            have c11b0 : (t251 != (decide ((wrap64 (a0 + a1)) < a0))) = false := by simpa using c11
            (try (have c11b1 : decide (t251 = (decide ((wrap64 (a0 + a1)) < a0))) = true := by simpa using c11))
            (try (have c11b2 : (t251 == (decide ((wrap64 (a0 + a1)) < a0))) = true := by simpa using c11))
            clear c11
            by_cases c12 : t251 = true
            · subst c12
              have H1 : (if t250 = (wrap64 (a0 + a1)) then (vesperslaw01_CivilSums.j0 k a0 a1 false) else (vesperslaw01_CivilSums.j0 k a0 a1 true)) = some r := by rw [if_pos rfl] at H; exact H
              clear H
              have H := H1
              clear H1
              by_cases c13 : t250 = (wrap64 (a0 + a1))
              · rw [if_pos c13] at H
                have c13b0 : (t250 == (wrap64 (a0 + a1))) = true := beq_iff_eq.mpr c13
                have c13b1 : (t250 != (wrap64 (a0 + a1))) = false := bne_eq_false_iff_eq.mpr c13
                clear c13
                have H' := Aside0.mk H
                clear H
                go_wp2
                go_meet
                case rel => exact ⟨_, (false), (by first | rfl | (simp; done) | (simp [*]; done)), H', ⟨by first | omega | exact Nat.le_refl _⟩, ⟨by repeat (first | (with_reducible first | exact HB.out | apply below_alloc | apply pw_below_drewN | apply below_drew1) | exact HB.out)⟩⟩
              · rw [if_neg c13] at H
                have c13b0 : (t250 == (wrap64 (a0 + a1))) = false := beq_eq_false_iff_ne.mpr c13
                have c13b1 : (t250 != (wrap64 (a0 + a1))) = true := bne_iff_ne.mpr c13
                have H' := Aside0.mk H
                clear H
                go_wp2
                go_meet
                case rel => exact ⟨_, (true), (by first | rfl | (simp; done) | (simp [*]; done)), H', ⟨by first | omega | exact Nat.le_refl _⟩, ⟨by repeat (first | (with_reducible first | exact HB.out | apply below_alloc | apply pw_below_drewN | apply below_drew1) | exact HB.out)⟩⟩
            · replace c12 := Bool.eq_false_iff.mpr c12
              subst c12
              have H1 : (vesperslaw01_CivilSums.j0 k a0 a1 (t250 != 0)) = some r := by rw [if_neg (show ¬ (false = true) by decide)] at H; exact H
              clear H
              have H := H1
              clear H1
              have H' := Aside0.mk H
              clear H
              go_wp2
              go_meet
              case rel => exact ⟨_, ((t250 != 0)), (by first | rfl | (simp; done) | (simp [*]; done)), H', ⟨by first | omega | exact Nat.le_refl _⟩, ⟨by repeat (first | (with_reducible first | exact HB.out | apply below_alloc | apply pw_below_drewN | apply below_drew1) | exact HB.out)⟩⟩
        · rw [if_neg c10] at H
          have c10b0 : decide (a1 < 0) = false := decide_eq_false c10
          clear c10
          by_cases c14 : (t251 != false) = true
          · rw [if_pos c14] at H
            have c14b0 : (t251 != false) = true := c14
            (try (have c14b1 : decide (t251 = false) = false := by simpa using c14))
            (try (have c14b2 : (t251 == false) = false := by simpa using c14))
            (try (have c14b3 : ¬ (t251 = false) := by simpa using c14))
            clear c14
            have H' := Aside0.mk H
            clear H
            go_wp2
            go_meet
            case rel => exact ⟨_, (true), (by first | rfl | (simp; done) | (simp [*]; done)), H', ⟨by first | omega | exact Nat.le_refl _⟩, ⟨by repeat (first | (with_reducible first | exact HB.out | apply below_alloc | apply pw_below_drewN | apply below_drew1) | exact HB.out)⟩⟩
          · rw [if_neg c14] at H
            have c14b0 : (t251 != false) = false := by simpa using c14
            (try (have c14b1 : decide (t251 = false) = true := by simpa using c14))
            (try (have c14b2 : (t251 == false) = true := by simpa using c14))
            clear c14
            by_cases c15 : t251 = true
            · subst c15
              have H1 : (if t250 = (wrap64 (a0 + a1)) then (vesperslaw01_CivilSums.j0 k a0 a1 false) else (vesperslaw01_CivilSums.j0 k a0 a1 true)) = some r := by rw [if_pos rfl] at H; exact H
              clear H
              have H := H1
              clear H1
              by_cases c16 : t250 = (wrap64 (a0 + a1))
              · rw [if_pos c16] at H
                have c16b0 : (t250 == (wrap64 (a0 + a1))) = true := beq_iff_eq.mpr c16
                have c16b1 : (t250 != (wrap64 (a0 + a1))) = false := bne_eq_false_iff_eq.mpr c16
                clear c16
                have H' := Aside0.mk H
                clear H
                go_wp2
                go_meet
                case rel => exact ⟨_, (false), (by first | rfl | (simp; done) | (simp [*]; done)), H', ⟨by first | omega | exact Nat.le_refl _⟩, ⟨by repeat (first | (with_reducible first | exact HB.out | apply below_alloc | apply pw_below_drewN | apply below_drew1) | exact HB.out)⟩⟩
              · rw [if_neg c16] at H
                have c16b0 : (t250 == (wrap64 (a0 + a1))) = false := beq_eq_false_iff_ne.mpr c16
                have c16b1 : (t250 != (wrap64 (a0 + a1))) = true := bne_iff_ne.mpr c16
                have H' := Aside0.mk H
                clear H
                go_wp2
                go_meet
                case rel => exact ⟨_, (true), (by first | rfl | (simp; done) | (simp [*]; done)), H', ⟨by first | omega | exact Nat.le_refl _⟩, ⟨by repeat (first | (with_reducible first | exact HB.out | apply below_alloc | apply pw_below_drewN | apply below_drew1) | exact HB.out)⟩⟩
            · replace c15 := Bool.eq_false_iff.mpr c15
              subst c15
              have H1 : (vesperslaw01_CivilSums.j0 k a0 a1 (t250 != 0)) = some r := by rw [if_neg (show ¬ (false = true) by decide)] at H; exact H
              clear H
              have H := H1
              clear H1
              have H' := Aside0.mk H
              clear H
              go_wp2
              go_meet
              case rel => exact ⟨_, ((t250 != 0)), (by first | rfl | (simp; done) | (simp [*]; done)), H', ⟨by first | omega | exact Nat.le_refl _⟩, ⟨by repeat (first | (with_reducible first | exact HB.out | apply below_alloc | apply pw_below_drewN | apply below_drew1) | exact HB.out)⟩⟩
    · rw [if_neg c5] at H
      have c5b0 : decide (0 ≤ a1) = false := decide_eq_false c5
      clear c5
      (first | rw [c5b0] | (simp only [i64_w, i32_w]; rw [c5b0]) | skip)
      by_cases c17 : a1 < 0
      · rw [if_pos c17] at H
        have c17b0 : decide (a1 < 0) = true := decide_eq_true c17
        clear c17
        by_cases c18 : (t251 != (decide ((wrap64 (a0 + a1)) < a0))) = true
        · rw [if_pos c18] at H
          have c18b0 : (t251 != (decide ((wrap64 (a0 + a1)) < a0))) = true := c18
          (try (have c18b1 : decide (t251 = (decide ((wrap64 (a0 + a1)) < a0))) = false := by simpa using c18))
          (try (have c18b2 : (t251 == (decide ((wrap64 (a0 + a1)) < a0))) = false := by simpa using c18))
          (try (have c18b3 : ¬ (t251 = (decide ((wrap64 (a0 + a1)) < a0))) := by simpa using c18))
          clear c18
          have H' := Aside0.mk H
          clear H
          go_wp2
          go_meet
          case rel => exact ⟨_, (true), (by first | rfl | (simp; done) | (simp [*]; done)), H', ⟨by first | omega | exact Nat.le_refl _⟩, ⟨by repeat (first | (with_reducible first | exact HB.out | apply below_alloc | apply pw_below_drewN | apply below_drew1) | exact HB.out)⟩⟩
        · rw [if_neg c18] at H
          have c18b0 : (t251 != (decide ((wrap64 (a0 + a1)) < a0))) = false := by simpa using c18
          (try (have c18b1 : decide (t251 = (decide ((wrap64 (a0 + a1)) < a0))) = true := by simpa using c18))
          (try (have c18b2 : (t251 == (decide ((wrap64 (a0 + a1)) < a0))) = true := by simpa using c18))
          clear c18
          by_cases c19 : t251 = true
          · subst c19
            have H1 : (if t250 = (wrap64 (a0 + a1)) then (vesperslaw01_CivilSums.j0 k a0 a1 false) else (vesperslaw01_CivilSums.j0 k a0 a1 true)) = some r := by rw [if_pos rfl] at H; exact H
            clear H
            have H := H1
            clear H1
            by_cases c20 : t250 = (wrap64 (a0 + a1))
            · rw [if_pos c20] at H
              have c20b0 : (t250 == (wrap64 (a0 + a1))) = true := beq_iff_eq.mpr c20
              have c20b1 : (t250 != (wrap64 (a0 + a1))) = false := bne_eq_false_iff_eq.mpr c20
              clear c20
              have H' := Aside0.mk H
              clear H
              go_wp2
              go_meet
              case rel => exact ⟨_, (false), (by first | rfl | (simp; done) | (simp [*]; done)), H', ⟨by first | omega | exact Nat.le_refl _⟩, ⟨by repeat (first | (with_reducible first | exact HB.out | apply below_alloc | apply pw_below_drewN | apply below_drew1) | exact HB.out)⟩⟩
            · rw [if_neg c20] at H
              have c20b0 : (t250 == (wrap64 (a0 + a1))) = false := beq_eq_false_iff_ne.mpr c20
              have c20b1 : (t250 != (wrap64 (a0 + a1))) = true := bne_iff_ne.mpr c20
              have H' := Aside0.mk H
              clear H
              go_wp2
              go_meet
              case rel => exact ⟨_, (true), (by first | rfl | (simp; done) | (simp [*]; done)), H', ⟨by first | omega | exact Nat.le_refl _⟩, ⟨by repeat (first | (with_reducible first | exact HB.out | apply below_alloc | apply pw_below_drewN | apply below_drew1) | exact HB.out)⟩⟩
          · replace c19 := Bool.eq_false_iff.mpr c19
            subst c19
            have H1 : (vesperslaw01_CivilSums.j0 k a0 a1 (t250 != 0)) = some r := by rw [if_neg (show ¬ (false = true) by decide)] at H; exact H
            clear H
            have H := H1
            clear H1
            have H' := Aside0.mk H
            clear H
            go_wp2
            go_meet
            case rel => exact ⟨_, ((t250 != 0)), (by first | rfl | (simp; done) | (simp [*]; done)), H', ⟨by first | omega | exact Nat.le_refl _⟩, ⟨by repeat (first | (with_reducible first | exact HB.out | apply below_alloc | apply pw_below_drewN | apply below_drew1) | exact HB.out)⟩⟩
      · rw [if_neg c17] at H
        have c17b0 : decide (a1 < 0) = false := decide_eq_false c17
        clear c17
        by_cases c21 : (t251 != false) = true
        · rw [if_pos c21] at H
          have c21b0 : (t251 != false) = true := c21
          (try (have c21b1 : decide (t251 = false) = false := by simpa using c21))
          (try (have c21b2 : (t251 == false) = false := by simpa using c21))
          (try (have c21b3 : ¬ (t251 = false) := by simpa using c21))
          clear c21
          have H' := Aside0.mk H
          clear H
          go_wp2
          go_meet
          case rel => exact ⟨_, (true), (by first | rfl | (simp; done) | (simp [*]; done)), H', ⟨by first | omega | exact Nat.le_refl _⟩, ⟨by repeat (first | (with_reducible first | exact HB.out | apply below_alloc | apply pw_below_drewN | apply below_drew1) | exact HB.out)⟩⟩
        · rw [if_neg c21] at H
          have c21b0 : (t251 != false) = false := by simpa using c21
          (try (have c21b1 : decide (t251 = false) = true := by simpa using c21))
          (try (have c21b2 : (t251 == false) = true := by simpa using c21))
          clear c21
          by_cases c22 : t251 = true
          · subst c22
            have H1 : (if t250 = (wrap64 (a0 + a1)) then (vesperslaw01_CivilSums.j0 k a0 a1 false) else (vesperslaw01_CivilSums.j0 k a0 a1 true)) = some r := by rw [if_pos rfl] at H; exact H
            clear H
            have H := H1
            clear H1
            by_cases c23 : t250 = (wrap64 (a0 + a1))
            · rw [if_pos c23] at H
              have c23b0 : (t250 == (wrap64 (a0 + a1))) = true := beq_iff_eq.mpr c23
              have c23b1 : (t250 != (wrap64 (a0 + a1))) = false := bne_eq_false_iff_eq.mpr c23
              clear c23
              have H' := Aside0.mk H
              clear H
              go_wp2
              go_meet
              case rel => exact ⟨_, (false), (by first | rfl | (simp; done) | (simp [*]; done)), H', ⟨by first | omega | exact Nat.le_refl _⟩, ⟨by repeat (first | (with_reducible first | exact HB.out | apply below_alloc | apply pw_below_drewN | apply below_drew1) | exact HB.out)⟩⟩
            · rw [if_neg c23] at H
              have c23b0 : (t250 == (wrap64 (a0 + a1))) = false := beq_eq_false_iff_ne.mpr c23
              have c23b1 : (t250 != (wrap64 (a0 + a1))) = true := bne_iff_ne.mpr c23
              have H' := Aside0.mk H
              clear H
              go_wp2
              go_meet
              case rel => exact ⟨_, (true), (by first | rfl | (simp; done) | (simp [*]; done)), H', ⟨by first | omega | exact Nat.le_refl _⟩, ⟨by repeat (first | (with_reducible first | exact HB.out | apply below_alloc | apply pw_below_drewN | apply below_drew1) | exact HB.out)⟩⟩
          · replace c22 := Bool.eq_false_iff.mpr c22
            subst c22
            have H1 : (vesperslaw01_CivilSums.j0 k a0 a1 (t250 != 0)) = some r := by rw [if_neg (show ¬ (false = true) by decide)] at H; exact H
            clear H
            have H := H1
            clear H1
            have H' := Aside0.mk H
            clear H
            go_wp2
            go_meet
            case rel => exact ⟨_, ((t250 != 0)), (by first | rfl | (simp; done) | (simp [*]; done)), H', ⟨by first | omega | exact Nat.le_refl _⟩, ⟨by repeat (first | (with_reducible first | exact HB.out | apply below_alloc | apply pw_below_drewN | apply below_drew1) | exact HB.out)⟩⟩
  case rest =>
    clear HC4
    try clear c1
    try clear c2
    try clear p2
    try clear c5
    try clear c5b0
    try clear c6
    try clear c6b0
    try clear p6
    try clear c7
    try clear c7b0
    try clear c7b1
    try clear c7b2
    try clear c8
    try clear c9
    try clear c9b0
    try clear c9b1
    try clear c10
    try clear c10b0
    try clear c11
    try clear c11b0
    try clear c11b1
    try clear c11b2
    try clear c12
    try clear c13
    try clear c13b0
    try clear c13b1
    try clear c14
    try clear c14b0
    try clear c14b1
    try clear c14b2
    try clear c15
    try clear c16
    try clear c16b0
    try clear c16b1
    try clear c17
    try clear c17b0
    try clear c18
    try clear c18b0
    try clear c18b1
    try clear c18b2
    try clear c19
    try clear c20
    try clear c20b0
    try clear c20b1
    try clear c21
    try clear c21b0
    try clear c21b1
    try clear c21b2
    try clear c22
    try clear c23
    try clear c23b0
    try clear c23b1
    obtain ⟨kq, x56_3, rfl, HA, HJ3, HB⟩ := hcut
    cases kq with
    | zero => exact absurd HA.out (by simp [vesperslaw01_CivilSums.j0])
    | succ kj3 =>
      have H := HA.out
      clear HA
      simp only [vesperslaw01_CivilSums.j0] at H
      by_cases c24 : x56_3 = true
      · subst c24
        have H1 : (some false) = some r := by rw [if_pos rfl] at H; exact H
        clear H
        have H := H1
        clear H1
        obtain rfl := Option.some.inj H
        go_wp2
        go_ret
        exact ⟨by first | rfl | (simp [errW_none, errW_some] <;> rfl) | (simp [*, errW_none, errW_some] <;> rfl) | (simp only [IntWalk.i64_left]; rfl), by repeat (first | (with_reducible first | exact HB.out | apply below_alloc | apply pw_below_drewN | apply below_drew1) | exact HB.out)⟩
      · replace c24 := Bool.eq_false_iff.mpr c24
        subst c24
        have H1 : ((civil_Mul.f kj3 a0 a1).bind fun bt252 => (if a0 = 0 then (vesperslaw01_CivilSums.j1 kj3 a0 a1 bt252.1 bt252.2 true) else (vesperslaw01_CivilSums.j1 kj3 a0 a1 bt252.1 bt252.2 (a1 == 0)))) = some r := by rw [if_neg (show ¬ (false = true) by decide)] at H; exact H
        clear H
        have H := H1
        clear H1
        replace H := Option.bind_eq_some_iff.mp H
        obtain ⟨⟨t252, t253⟩, A250, H⟩ := H
        replace H : (if a0 = 0 then (vesperslaw01_CivilSums.j1 kj3 a0 a1 t252 t253 true) else (vesperslaw01_CivilSums.j1 kj3 a0 a1 t252 t253 (a1 == 0))) = some r := H
        have A25 := Aside0.mk A250
        clear A250
        have HC26 := Aside0.mk H
        clear H
        go_upto_region 5 with (first | ((with_reducible refine gate_callee (f := 26) rfl ?_); refine goesL_ (some 60) rfl rfl Try.func26 (by kernel_rfl) rfl #[.int .i64 a0, .int .i64 a1] rfl (by (try simp only [List.map_toArray, List.map_cons, List.map_nil]); first | done | rfl | (simp only [List.length_drop, List.length_take]; rfl)) ?_; (with_reducible refine (civil_Mul.calls kj3 a0 a1 t252 t253 _ A25.out).mono ?_); rintro e w' ⟨rfl, ⟨nd, rfl⟩⟩; refine ⟨_, rfl, ?_⟩))
        (try simp only [Act.put, List.setIfInBounds_toArray, List.set_cons_zero, List.set_cons_succ])
        go_cut [68] (fun v68 wc => ∃ (kq : Nat) (x68_25 : Bool), v68 = .bool x68_25 ∧ Aside0 (vesperslaw01_CivilSums.j1 kq a0 a1 t252 t253 x68_25 = some r) ∧ Aside0 (kq ≤ kj3) ∧ Aside0 (Below w.heap.size w wc))
        case first =>
          have H := HC26.out
          clear HC26
          by_cases c27 : a0 = 0
          · rw [if_pos c27] at H
            have c27b0 : (a0 == 0) = true := beq_iff_eq.mpr c27
            have c27b1 : (a0 != 0) = false := bne_eq_false_iff_eq.mpr c27
            clear c27
            (first | rw [c27b0] | (simp only [i64_w, i32_w]; rw [c27b0]) | skip)
            have H' := Aside0.mk H
            clear H
            go_wp2
            go_meet
            case rel => exact ⟨_, (true), (by first | rfl | (simp; done) | (simp [*]; done)), H', ⟨by have := HJ3.out; first | omega | exact Nat.le_refl _⟩, ⟨by repeat (first | (with_reducible first | exact HB.out | apply below_alloc | apply pw_below_drewN | apply below_drew1) | exact HB.out)⟩⟩
          · rw [if_neg c27] at H
            have c27b0 : (a0 == 0) = false := beq_eq_false_iff_ne.mpr c27
            have c27b1 : (a0 != 0) = true := bne_iff_ne.mpr c27
            (first | rw [c27b0] | (simp only [i64_w, i32_w]; rw [c27b0]) | skip)
            have H' := Aside0.mk H
            clear H
            go_wp2
            go_meet
            case rel => exact ⟨_, ((a1 == 0)), (by first | rfl | (simp; done) | (simp [*]; done)), H', ⟨by have := HJ3.out; first | omega | exact Nat.le_refl _⟩, ⟨by repeat (first | (with_reducible first | exact HB.out | apply below_alloc | apply pw_below_drewN | apply below_drew1) | exact HB.out)⟩⟩
        case rest =>
          clear HC26
          try clear c1
          try clear c2
          try clear p2
          try clear c5
          try clear c5b0
          try clear c6
          try clear c6b0
          try clear p6
          try clear c7
          try clear c7b0
          try clear c7b1
          try clear c7b2
          try clear c8
          try clear c9
          try clear c9b0
          try clear c9b1
          try clear c10
          try clear c10b0
          try clear c11
          try clear c11b0
          try clear c11b1
          try clear c11b2
          try clear c12
          try clear c13
          try clear c13b0
          try clear c13b1
          try clear c14
          try clear c14b0
          try clear c14b1
          try clear c14b2
          try clear c15
          try clear c16
          try clear c16b0
          try clear c16b1
          try clear c17
          try clear c17b0
          try clear c18
          try clear c18b0
          try clear c18b1
          try clear c18b2
          try clear c19
          try clear c20
          try clear c20b0
          try clear c20b1
          try clear c21
          try clear c21b0
          try clear c21b1
          try clear c21b2
          try clear c22
          try clear c23
          try clear c23b0
          try clear c23b1
          try clear c24
          try clear c25
          try clear c26
          try clear c27
          try clear c27b0
          try clear c27b1
          try clear p2
          try clear p6
          obtain ⟨kq, x68_25, rfl, HA, HJ25, HB⟩ := hcut
          cases kq with
          | zero => exact absurd HA.out (by simp [vesperslaw01_CivilSums.j1])
          | succ kj25 =>
            have H := HA.out
            clear HA
            simp only [vesperslaw01_CivilSums.j1] at H
            by_cases c28 : x68_25 = true
            · subst c28
              have H1 : ((vesperslaw01_fixed.f kj25).bind fun t254 => (if t254 = true then (if t253 = true then (some (t252 == 0)) else (some false)) else (some false))) = some r := by rw [if_pos rfl] at H; exact H
              clear H
              have H := H1
              clear H1
              replace H := Option.bind_eq_some_iff.mp H
              obtain ⟨t254, A290, H⟩ := H
              replace H : (if t254 = true then (if t253 = true then (some (t252 == 0)) else (some false)) else (some false)) = some r := H
              have A29 := Aside0.mk A290
              clear A290
              by_cases c30 : t254 = true
              · subst c30
                have H1 : (if t253 = true then (some (t252 == 0)) else (some false)) = some r := by rw [if_pos rfl] at H; exact H
                clear H
                have H := H1
                clear H1
                by_cases c31 : t253 = true
                · subst c31
                  have H1 : (some (t252 == 0)) = some r := by rw [if_pos rfl] at H; exact H
                  clear H
                  have H := H1
                  clear H1
                  obtain rfl := Option.some.inj H
                  go_wp2_with (first | ((with_reducible refine gate_callee (f := 10) rfl ?_); refine goesL_ (some 69) rfl rfl Try.func10 (by kernel_rfl) rfl #[] rfl (by (try simp only [List.map_toArray, List.map_cons, List.map_nil]); first | done | rfl | (simp only [List.length_drop, List.length_take]; rfl)) ?_; (with_reducible refine (vesperslaw01_fixed.calls kj25  true _ A29.out).mono ?_); rintro e w32 ⟨rfl, hb⟩; refine ⟨_, rfl, ?_⟩; have n0_ := Aside0.mk (below_step (by repeat (first | (with_reducible first | exact HB.out | apply below_alloc | apply pw_below_drewN | apply below_drew1) | exact HB.out)) hb); clear HB; have HB := n0_; clear n0_; (try clear hb); (try clear hb2); (try clear hk); (try clear hi)))
                  go_ret
                  exact ⟨by first | rfl | (simp [errW_none, errW_some] <;> rfl) | (simp [*, errW_none, errW_some] <;> rfl) | (simp only [IntWalk.i64_left]; rfl), by repeat (first | (with_reducible first | exact HB.out | apply below_alloc | apply pw_below_drewN | apply below_drew1) | exact HB.out)⟩
                · replace c31 := Bool.eq_false_iff.mpr c31
                  subst c31
                  have H1 : (some false) = some r := by rw [if_neg (show ¬ (false = true) by decide)] at H; exact H
                  clear H
                  have H := H1
                  clear H1
                  obtain rfl := Option.some.inj H
                  go_wp2_with (first | ((with_reducible refine gate_callee (f := 10) rfl ?_); refine goesL_ (some 69) rfl rfl Try.func10 (by kernel_rfl) rfl #[] rfl (by (try simp only [List.map_toArray, List.map_cons, List.map_nil]); first | done | rfl | (simp only [List.length_drop, List.length_take]; rfl)) ?_; (with_reducible refine (vesperslaw01_fixed.calls kj25  true _ A29.out).mono ?_); rintro e w33 ⟨rfl, hb⟩; refine ⟨_, rfl, ?_⟩; have n0_ := Aside0.mk (below_step (by repeat (first | (with_reducible first | exact HB.out | apply below_alloc | apply pw_below_drewN | apply below_drew1) | exact HB.out)) hb); clear HB; have HB := n0_; clear n0_; (try clear hb); (try clear hb2); (try clear hk); (try clear hi)))
                  go_ret
                  exact ⟨by first | rfl | (simp [errW_none, errW_some] <;> rfl) | (simp [*, errW_none, errW_some] <;> rfl) | (simp only [IntWalk.i64_left]; rfl), by repeat (first | (with_reducible first | exact HB.out | apply below_alloc | apply pw_below_drewN | apply below_drew1) | exact HB.out)⟩
              · replace c30 := Bool.eq_false_iff.mpr c30
                subst c30
                have H1 : (some false) = some r := by rw [if_neg (show ¬ (false = true) by decide)] at H; exact H
                clear H
                have H := H1
                clear H1
                obtain rfl := Option.some.inj H
                go_wp2_with (first | ((with_reducible refine gate_callee (f := 10) rfl ?_); refine goesL_ (some 69) rfl rfl Try.func10 (by kernel_rfl) rfl #[] rfl (by (try simp only [List.map_toArray, List.map_cons, List.map_nil]); first | done | rfl | (simp only [List.length_drop, List.length_take]; rfl)) ?_; (with_reducible refine (vesperslaw01_fixed.calls kj25  false _ A29.out).mono ?_); rintro e w34 ⟨rfl, hb⟩; refine ⟨_, rfl, ?_⟩; have n0_ := Aside0.mk (below_step (by repeat (first | (with_reducible first | exact HB.out | apply below_alloc | apply pw_below_drewN | apply below_drew1) | exact HB.out)) hb); clear HB; have HB := n0_; clear n0_; (try clear hb); (try clear hb2); (try clear hk); (try clear hi)))
                go_ret
                exact ⟨by first | rfl | (simp [errW_none, errW_some] <;> rfl) | (simp [*, errW_none, errW_some] <;> rfl) | (simp only [IntWalk.i64_left]; rfl), by repeat (first | (with_reducible first | exact HB.out | apply below_alloc | apply pw_below_drewN | apply below_drew1) | exact HB.out)⟩
            · replace c28 := Bool.eq_false_iff.mpr c28
              subst c28
              have H1 : (if a0 = (-9223372036854775808) then (vesperslaw01_CivilSums.j2 kj25 a0 a1 t252 t253 true) else (vesperslaw01_CivilSums.j2 kj25 a0 a1 t252 t253 (a1 == (-9223372036854775808)))) = some r := by rw [if_neg (show ¬ (false = true) by decide)] at H; exact H
              clear H
              have H := H1
              clear H1
              have HC35 := Aside0.mk H
              clear H
              go_upto_region 7 with (fail)
              go_cut [82] (fun v82 wc => ∃ (kq : Nat) (x82_34 : Bool), v82 = .bool x82_34 ∧ Aside0 (vesperslaw01_CivilSums.j2 kq a0 a1 t252 t253 x82_34 = some r) ∧ Aside0 (kq ≤ kj25) ∧ Aside0 (Below w.heap.size w wc))
              case first =>
                have H := HC35.out
                clear HC35
                by_cases c36 : a0 = (-9223372036854775808)
                · rw [if_pos c36] at H
                  have c36b0 : (a0 == (-9223372036854775808)) = true := beq_iff_eq.mpr c36
                  have c36b1 : (a0 != (-9223372036854775808)) = false := bne_eq_false_iff_eq.mpr c36
                  clear c36
                  (first | rw [c36b0] | (simp only [i64_w, i32_w]; rw [c36b0]) | skip)
                  have H' := Aside0.mk H
                  clear H
                  go_wp2
                  go_meet
                  case rel => exact ⟨_, (true), (by first | rfl | (simp; done) | (simp [*]; done)), H', ⟨by have := HJ3.out; have := HJ25.out; first | omega | exact Nat.le_refl _⟩, ⟨by repeat (first | (with_reducible first | exact HB.out | apply below_alloc | apply pw_below_drewN | apply below_drew1) | exact HB.out)⟩⟩
                · rw [if_neg c36] at H
                  have c36b0 : (a0 == (-9223372036854775808)) = false := beq_eq_false_iff_ne.mpr c36
                  have c36b1 : (a0 != (-9223372036854775808)) = true := bne_iff_ne.mpr c36
                  (first | rw [c36b0] | (simp only [i64_w, i32_w]; rw [c36b0]) | skip)
                  have H' := Aside0.mk H
                  clear H
                  go_wp2
                  go_meet
                  case rel => exact ⟨_, ((a1 == (-9223372036854775808))), (by first | rfl | (simp; done) | (simp [*]; done)), H', ⟨by have := HJ3.out; have := HJ25.out; first | omega | exact Nat.le_refl _⟩, ⟨by repeat (first | (with_reducible first | exact HB.out | apply below_alloc | apply pw_below_drewN | apply below_drew1) | exact HB.out)⟩⟩
              case rest =>
                clear HC35
                try clear c1
                try clear c2
                try clear p2
                try clear c3
                try clear c5
                try clear c5b0
                try clear c6
                try clear c6b0
                try clear p6
                try clear c7
                try clear c7b0
                try clear c7b1
                try clear c7b2
                try clear c8
                try clear c9
                try clear c9b0
                try clear c9b1
                try clear c10
                try clear c10b0
                try clear c11
                try clear c11b0
                try clear c11b1
                try clear c11b2
                try clear c12
                try clear c13
                try clear c13b0
                try clear c13b1
                try clear c14
                try clear c14b0
                try clear c14b1
                try clear c14b2
                try clear c15
                try clear c16
                try clear c16b0
                try clear c16b1
                try clear c17
                try clear c17b0
                try clear c18
                try clear c18b0
                try clear c18b1
                try clear c18b2
                try clear c19
                try clear c20
                try clear c20b0
                try clear c20b1
                try clear c21
                try clear c21b0
                try clear c21b1
                try clear c21b2
                try clear c22
                try clear c23
                try clear c23b0
                try clear c23b1
                try clear c24
                try clear c25
                try clear c26
                try clear c27
                try clear c27b0
                try clear c27b1
                try clear c28
                try clear c30
                try clear c31
                try clear c36
                try clear c36b0
                try clear c36b1
                try clear p2
                try clear p6
                obtain ⟨kq, x82_34, rfl, HA, HJ34, HB⟩ := hcut
                cases kq with
                | zero => exact absurd HA.out (by simp [vesperslaw01_CivilSums.j2])
                | succ kj34 =>
                  have H := HA.out
                  clear HA
                  simp only [vesperslaw01_CivilSums.j2] at H
                  by_cases c37 : x82_34 = true
                  · subst c37
                    have H1 : (if a0 = 1 then ((vesperslaw01_fixed.f kj34).bind fun t255 => (if t255 = true then (if (t253 == true) = true then (some (t252 == (-9223372036854775808))) else (some false)) else (some false))) else ((vesperslaw01_fixed.f kj34).bind fun t256 => (if t256 = true then (if (t253 == (a1 == 1)) = true then (if a1 = 1 then (some (t252 == (-9223372036854775808))) else (some true)) else (some false)) else (some false)))) = some r := by rw [if_pos rfl] at H; exact H
                    clear H
                    have H := H1
                    clear H1
                    by_cases c38 : a0 = 1
                    · rw [if_pos c38] at H
                      have c38b0 : (a0 == 1) = true := beq_iff_eq.mpr c38
                      have c38b1 : (a0 != 1) = false := bne_eq_false_iff_eq.mpr c38
                      clear c38
                      replace H := Option.bind_eq_some_iff.mp H
                      obtain ⟨t255, A390, H⟩ := H
                      replace H : (if t255 = true then (if (t253 == true) = true then (some (t252 == (-9223372036854775808))) else (some false)) else (some false)) = some r := H
                      have A39 := Aside0.mk A390
                      clear A390
                      by_cases c40 : t255 = true
                      · subst c40
                        have H1 : (if (t253 == true) = true then (some (t252 == (-9223372036854775808))) else (some false)) = some r := by rw [if_pos rfl] at H; exact H
                        clear H
                        have H := H1
                        clear H1
                        by_cases c41 : (t253 == true) = true
                        · rw [if_pos c41] at H
                          have c41b0 : (t253 == true) = true := c41
                          (try (have c41b1 : decide (t253 = true) = true := by simpa using c41))
                          (try (have c41b2 : (t253 == true) = true := by simpa using c41))
                          clear c41
                          obtain rfl := Option.some.inj H
                          go_wp2_with (first | ((with_reducible refine gate_callee (f := 10) rfl ?_); refine goesL_ (some 89) rfl rfl Try.func10 (by kernel_rfl) rfl #[] rfl (by (try simp only [List.map_toArray, List.map_cons, List.map_nil]); first | done | rfl | (simp only [List.length_drop, List.length_take]; rfl)) ?_; (with_reducible refine (vesperslaw01_fixed.calls kj34  true _ A39.out).mono ?_); rintro e w42 ⟨rfl, hb⟩; refine ⟨_, rfl, ?_⟩; have n0_ := Aside0.mk (below_step (by repeat (first | (with_reducible first | exact HB.out | apply below_alloc | apply pw_below_drewN | apply below_drew1) | exact HB.out)) hb); clear HB; have HB := n0_; clear n0_; (try clear hb); (try clear hb2); (try clear hk); (try clear hi)))
                          go_ret
                          exact ⟨by first | rfl | (simp [errW_none, errW_some] <;> rfl) | (simp [*, errW_none, errW_some] <;> rfl) | (simp only [IntWalk.i64_left]; rfl), by repeat (first | (with_reducible first | exact HB.out | apply below_alloc | apply pw_below_drewN | apply below_drew1) | exact HB.out)⟩
                        · rw [if_neg c41] at H
                          have c41b0 : (t253 == true) = false := by simpa using c41
                          (try (have c41b1 : decide (t253 = true) = false := by simpa using c41))
                          (try (have c41b2 : (t253 == true) = false := by simpa using c41))
                          (try (have c41b3 : ¬ (t253 = true) := by simpa using c41))
                          clear c41
                          obtain rfl := Option.some.inj H
                          go_wp2_with (first | ((with_reducible refine gate_callee (f := 10) rfl ?_); refine goesL_ (some 89) rfl rfl Try.func10 (by kernel_rfl) rfl #[] rfl (by (try simp only [List.map_toArray, List.map_cons, List.map_nil]); first | done | rfl | (simp only [List.length_drop, List.length_take]; rfl)) ?_; (with_reducible refine (vesperslaw01_fixed.calls kj34  true _ A39.out).mono ?_); rintro e w43 ⟨rfl, hb⟩; refine ⟨_, rfl, ?_⟩; have n0_ := Aside0.mk (below_step (by repeat (first | (with_reducible first | exact HB.out | apply below_alloc | apply pw_below_drewN | apply below_drew1) | exact HB.out)) hb); clear HB; have HB := n0_; clear n0_; (try clear hb); (try clear hb2); (try clear hk); (try clear hi)))
                          go_ret
                          exact ⟨by first | rfl | (simp [errW_none, errW_some] <;> rfl) | (simp [*, errW_none, errW_some] <;> rfl) | (simp only [IntWalk.i64_left]; rfl), by repeat (first | (with_reducible first | exact HB.out | apply below_alloc | apply pw_below_drewN | apply below_drew1) | exact HB.out)⟩
                      · replace c40 := Bool.eq_false_iff.mpr c40
                        subst c40
                        have H1 : (some false) = some r := by rw [if_neg (show ¬ (false = true) by decide)] at H; exact H
                        clear H
                        have H := H1
                        clear H1
                        obtain rfl := Option.some.inj H
                        go_wp2_with (first | ((with_reducible refine gate_callee (f := 10) rfl ?_); refine goesL_ (some 89) rfl rfl Try.func10 (by kernel_rfl) rfl #[] rfl (by (try simp only [List.map_toArray, List.map_cons, List.map_nil]); first | done | rfl | (simp only [List.length_drop, List.length_take]; rfl)) ?_; (with_reducible refine (vesperslaw01_fixed.calls kj34  false _ A39.out).mono ?_); rintro e w44 ⟨rfl, hb⟩; refine ⟨_, rfl, ?_⟩; have n0_ := Aside0.mk (below_step (by repeat (first | (with_reducible first | exact HB.out | apply below_alloc | apply pw_below_drewN | apply below_drew1) | exact HB.out)) hb); clear HB; have HB := n0_; clear n0_; (try clear hb); (try clear hb2); (try clear hk); (try clear hi)))
                        go_ret
                        exact ⟨by first | rfl | (simp [errW_none, errW_some] <;> rfl) | (simp [*, errW_none, errW_some] <;> rfl) | (simp only [IntWalk.i64_left]; rfl), by repeat (first | (with_reducible first | exact HB.out | apply below_alloc | apply pw_below_drewN | apply below_drew1) | exact HB.out)⟩
                    · rw [if_neg c38] at H
                      have c38b0 : (a0 == 1) = false := beq_eq_false_iff_ne.mpr c38
                      have c38b1 : (a0 != 1) = true := bne_iff_ne.mpr c38
                      replace H := Option.bind_eq_some_iff.mp H
                      obtain ⟨t256, A450, H⟩ := H
                      replace H : (if t256 = true then (if (t253 == (a1 == 1)) = true then (if a1 = 1 then (some (t252 == (-9223372036854775808))) else (some true)) else (some false)) else (some false)) = some r := H
                      have A45 := Aside0.mk A450
                      clear A450
                      by_cases c46 : t256 = true
                      · subst c46
                        have H1 : (if (t253 == (a1 == 1)) = true then (if a1 = 1 then (some (t252 == (-9223372036854775808))) else (some true)) else (some false)) = some r := by rw [if_pos rfl] at H; exact H
                        clear H
                        have H := H1
                        clear H1
                        by_cases c47 : (t253 == (a1 == 1)) = true
                        · rw [if_pos c47] at H
                          have c47b0 : (t253 == (a1 == 1)) = true := c47
                          (try (have c47b1 : decide (t253 = (a1 == 1)) = true := by simpa using c47))
                          (try (have c47b2 : (t253 == (a1 == 1)) = true := by simpa using c47))
                          clear c47
                          have e47 : t253 = (a1 == 1) := eq_of_beq c47b0
                          subst e47
                          by_cases c48 : a1 = 1
                          · rw [if_pos c48] at H
                            have c48b0 : (a1 == 1) = true := beq_iff_eq.mpr c48
                            have c48b1 : (a1 != 1) = false := bne_eq_false_iff_eq.mpr c48
                            clear c48
                            obtain rfl := Option.some.inj H
                            go_wp2_with (first | ((with_reducible refine gate_callee (f := 10) rfl ?_); refine goesL_ (some 89) rfl rfl Try.func10 (by kernel_rfl) rfl #[] rfl (by (try simp only [List.map_toArray, List.map_cons, List.map_nil]); first | done | rfl | (simp only [List.length_drop, List.length_take]; rfl)) ?_; (with_reducible refine (vesperslaw01_fixed.calls kj34  true _ A45.out).mono ?_); rintro e w49 ⟨rfl, hb⟩; refine ⟨_, rfl, ?_⟩; have n0_ := Aside0.mk (below_step (by repeat (first | (with_reducible first | exact HB.out | apply below_alloc | apply pw_below_drewN | apply below_drew1) | exact HB.out)) hb); clear HB; have HB := n0_; clear n0_; (try clear hb); (try clear hb2); (try clear hk); (try clear hi)))
                            go_ret
                            exact ⟨by first | rfl | (simp [errW_none, errW_some] <;> rfl) | (simp [*, errW_none, errW_some] <;> rfl) | (simp only [IntWalk.i64_left]; rfl), by repeat (first | (with_reducible first | exact HB.out | apply below_alloc | apply pw_below_drewN | apply below_drew1) | exact HB.out)⟩
                          · rw [if_neg c48] at H
                            have c48b0 : (a1 == 1) = false := beq_eq_false_iff_ne.mpr c48
                            have c48b1 : (a1 != 1) = true := bne_iff_ne.mpr c48
                            obtain rfl := Option.some.inj H
                            go_wp2_with (first | ((with_reducible refine gate_callee (f := 10) rfl ?_); refine goesL_ (some 89) rfl rfl Try.func10 (by kernel_rfl) rfl #[] rfl (by (try simp only [List.map_toArray, List.map_cons, List.map_nil]); first | done | rfl | (simp only [List.length_drop, List.length_take]; rfl)) ?_; (with_reducible refine (vesperslaw01_fixed.calls kj34  true _ A45.out).mono ?_); rintro e w50 ⟨rfl, hb⟩; refine ⟨_, rfl, ?_⟩; have n0_ := Aside0.mk (below_step (by repeat (first | (with_reducible first | exact HB.out | apply below_alloc | apply pw_below_drewN | apply below_drew1) | exact HB.out)) hb); clear HB; have HB := n0_; clear n0_; (try clear hb); (try clear hb2); (try clear hk); (try clear hi)))
                            go_ret
                            exact ⟨by first | rfl | (simp [errW_none, errW_some] <;> rfl) | (simp [*, errW_none, errW_some] <;> rfl) | (simp only [IntWalk.i64_left]; rfl), by repeat (first | (with_reducible first | exact HB.out | apply below_alloc | apply pw_below_drewN | apply below_drew1) | exact HB.out)⟩
                        · rw [if_neg c47] at H
                          have c47b0 : (t253 == (a1 == 1)) = false := by simpa using c47
                          (try (have c47b1 : decide (t253 = (a1 == 1)) = false := by simpa using c47))
                          (try (have c47b2 : (t253 == (a1 == 1)) = false := by simpa using c47))
                          (try (have c47b3 : ¬ (t253 = (a1 == 1)) := by simpa using c47))
                          clear c47
                          have e47 : t253 = !(a1 == 1) := by have q_ := c47b0; revert q_; cases t253 <;> cases (a1 == 1) <;> simp
                          subst e47
                          obtain rfl := Option.some.inj H
                          go_wp2_with (first | ((with_reducible refine gate_callee (f := 10) rfl ?_); refine goesL_ (some 89) rfl rfl Try.func10 (by kernel_rfl) rfl #[] rfl (by (try simp only [List.map_toArray, List.map_cons, List.map_nil]); first | done | rfl | (simp only [List.length_drop, List.length_take]; rfl)) ?_; (with_reducible refine (vesperslaw01_fixed.calls kj34  true _ A45.out).mono ?_); rintro e w51 ⟨rfl, hb⟩; refine ⟨_, rfl, ?_⟩; have n0_ := Aside0.mk (below_step (by repeat (first | (with_reducible first | exact HB.out | apply below_alloc | apply pw_below_drewN | apply below_drew1) | exact HB.out)) hb); clear HB; have HB := n0_; clear n0_; (try clear hb); (try clear hb2); (try clear hk); (try clear hi)))
                          go_ret
                          exact ⟨by first | rfl | (simp [errW_none, errW_some] <;> rfl) | (simp [*, errW_none, errW_some] <;> rfl) | (simp only [IntWalk.i64_left]; rfl), by repeat (first | (with_reducible first | exact HB.out | apply below_alloc | apply pw_below_drewN | apply below_drew1) | exact HB.out)⟩
                      · replace c46 := Bool.eq_false_iff.mpr c46
                        subst c46
                        have H1 : (some false) = some r := by rw [if_neg (show ¬ (false = true) by decide)] at H; exact H
                        clear H
                        have H := H1
                        clear H1
                        obtain rfl := Option.some.inj H
                        go_wp2_with (first | ((with_reducible refine gate_callee (f := 10) rfl ?_); refine goesL_ (some 89) rfl rfl Try.func10 (by kernel_rfl) rfl #[] rfl (by (try simp only [List.map_toArray, List.map_cons, List.map_nil]); first | done | rfl | (simp only [List.length_drop, List.length_take]; rfl)) ?_; (with_reducible refine (vesperslaw01_fixed.calls kj34  false _ A45.out).mono ?_); rintro e w52 ⟨rfl, hb⟩; refine ⟨_, rfl, ?_⟩; have n0_ := Aside0.mk (below_step (by repeat (first | (with_reducible first | exact HB.out | apply below_alloc | apply pw_below_drewN | apply below_drew1) | exact HB.out)) hb); clear HB; have HB := n0_; clear n0_; (try clear hb); (try clear hb2); (try clear hk); (try clear hi)))
                        go_ret
                        exact ⟨by first | rfl | (simp [errW_none, errW_some] <;> rfl) | (simp [*, errW_none, errW_some] <;> rfl) | (simp only [IntWalk.i64_left]; rfl), by repeat (first | (with_reducible first | exact HB.out | apply below_alloc | apply pw_below_drewN | apply below_drew1) | exact HB.out)⟩
                  · replace c37 := Bool.eq_false_iff.mpr c37
                    subst c37
                    have H1 : (if a1 = 0 then (none) else (if (wrap64 (Int.tdiv (wrap64 (a0 * a1)) a1)) = a0 then (if (wrap64 (a0 * a1)) = (-9223372036854775808) then (if ((decide (a0 < 0)) != (decide (a1 < 0))) = true then ((vesperslaw01_fixed.f kj34).bind fun t257 => (if t257 = true then (if (t253 == ((wrap64 (Int.tdiv (wrap64 (a0 * a1)) a1)) == a0)) = true then (if ((wrap64 (Int.tdiv (wrap64 (a0 * a1)) a1)) = a0) then (some (t252 == (wrap64 (a0 * a1)))) else (some true)) else (some false)) else (some false))) else ((vesperslaw01_fixed.f kj34).bind fun t258 => (if t258 = true then (if (t253 == false) = true then (some true) else (some false)) else (some false)))) else ((vesperslaw01_fixed.f kj34).bind fun t259 => (if t259 = true then (if (t253 == true) = true then (some (t252 == (wrap64 (a0 * a1)))) else (some false)) else (some false)))) else (if (wrap64 (a0 * a1)) = (-9223372036854775808) then (if ((decide (a0 < 0)) != (decide (a1 < 0))) = true then ((vesperslaw01_fixed.f kj34).bind fun t260 => (if t260 = true then (if (t253 == ((wrap64 (Int.tdiv (wrap64 (a0 * a1)) a1)) == a0)) = true then (if ((wrap64 (Int.tdiv (wrap64 (a0 * a1)) a1)) = a0) then (some (t252 == (wrap64 (a0 * a1)))) else (some true)) else (some false)) else (some false))) else ((vesperslaw01_fixed.f kj34).bind fun t261 => (if t261 = true then (if (t253 == false) = true then (some true) else (some false)) else (some false)))) else ((vesperslaw01_fixed.f kj34).bind fun t262 => (if t262 = true then (if (t253 == false) = true then (some true) else (some false)) else (some false)))))) = some r := by rw [if_neg (show ¬ (false = true) by decide)] at H; exact H
                    clear H
                    have H := H1
                    clear H1
                    by_cases c53 : a1 = 0
                    · rw [if_pos c53] at H
                      exact absurd H (by simp)
                    · rw [if_neg c53] at H
                      have c53b0 : (a1 == 0) = false := beq_eq_false_iff_ne.mpr c53
                      have c53b1 : (a1 != 0) = true := bne_iff_ne.mpr c53
                      by_cases c54 : (wrap64 (Int.tdiv (wrap64 (a0 * a1)) a1)) = a0
                      · rw [if_pos c54] at H
                        have c54b0 : ((wrap64 (Int.tdiv (wrap64 (a0 * a1)) a1)) == a0) = true := beq_iff_eq.mpr c54
                        have c54b1 : ((wrap64 (Int.tdiv (wrap64 (a0 * a1)) a1)) != a0) = false := bne_eq_false_iff_eq.mpr c54
                        clear c54
                        by_cases c55 : (wrap64 (a0 * a1)) = (-9223372036854775808)
                        · rw [if_pos c55] at H
                          have c55b0 : ((wrap64 (a0 * a1)) == (-9223372036854775808)) = true := beq_iff_eq.mpr c55
                          have c55b1 : ((wrap64 (a0 * a1)) != (-9223372036854775808)) = false := bne_eq_false_iff_eq.mpr c55
                          clear c55
                          by_cases c56 : ((decide (a0 < 0)) != (decide (a1 < 0))) = true
                          · rw [if_pos c56] at H
                            have c56b0 : ((decide (a0 < 0)) != (decide (a1 < 0))) = true := c56
                            (try (have c56b1 : decide ((decide (a0 < 0)) = (decide (a1 < 0))) = false := by simpa using c56))
                            (try (have c56b2 : ((decide (a0 < 0)) == (decide (a1 < 0))) = false := by simpa using c56))
                            (try (have c56b3 : ¬ ((decide (a0 < 0)) = (decide (a1 < 0))) := by simpa using c56))
                            clear c56
                            replace H := Option.bind_eq_some_iff.mp H
                            obtain ⟨t257, A570, H⟩ := H
                            replace H : (if t257 = true then (if (t253 == ((wrap64 (Int.tdiv (wrap64 (a0 * a1)) a1)) == a0)) = true then (if ((wrap64 (Int.tdiv (wrap64 (a0 * a1)) a1)) = a0) then (some (t252 == (wrap64 (a0 * a1)))) else (some true)) else (some false)) else (some false)) = some r := H
                            have A57 := Aside0.mk A570
                            clear A570
                            by_cases c58 : t257 = true
                            · subst c58
                              have H1 : (if (t253 == ((wrap64 (Int.tdiv (wrap64 (a0 * a1)) a1)) == a0)) = true then (if ((wrap64 (Int.tdiv (wrap64 (a0 * a1)) a1)) = a0) then (some (t252 == (wrap64 (a0 * a1)))) else (some true)) else (some false)) = some r := by rw [if_pos rfl] at H; exact H
                              clear H
                              have H := H1
                              clear H1
                              by_cases c59 : (t253 == ((wrap64 (Int.tdiv (wrap64 (a0 * a1)) a1)) == a0)) = true
                              · rw [if_pos c59] at H
                                have c59b0 : (t253 == ((wrap64 (Int.tdiv (wrap64 (a0 * a1)) a1)) == a0)) = true := c59
                                (try (have c59b1 : decide (t253 = ((wrap64 (Int.tdiv (wrap64 (a0 * a1)) a1)) == a0)) = true := by simpa using c59))
                                (try (have c59b2 : (t253 == ((wrap64 (Int.tdiv (wrap64 (a0 * a1)) a1)) == a0)) = true := by simpa using c59))
                                clear c59
                                have e59 : t253 = ((wrap64 (Int.tdiv (wrap64 (a0 * a1)) a1)) == a0) := eq_of_beq c59b0
                                subst e59
                                by_cases c60 : ((wrap64 (Int.tdiv (wrap64 (a0 * a1)) a1)) = a0)
                                · rw [if_pos c60] at H
                                  have c60b0 : ((wrap64 (Int.tdiv (wrap64 (a0 * a1)) a1)) == a0) = true := beq_iff_eq.mpr c60
                                  have c60b1 : ((wrap64 (Int.tdiv (wrap64 (a0 * a1)) a1)) != a0) = false := bne_eq_false_iff_eq.mpr c60
                                  clear c60
                                  obtain rfl := Option.some.inj H
                                  go_wp2_with (first | ((with_reducible refine gate_callee (f := 10) rfl ?_); refine goesL_ (some 138) rfl rfl Try.func10 (by kernel_rfl) rfl #[] rfl (by (try simp only [List.map_toArray, List.map_cons, List.map_nil]); first | done | rfl | (simp only [List.length_drop, List.length_take]; rfl)) ?_; (with_reducible refine (vesperslaw01_fixed.calls kj34  true _ A57.out).mono ?_); rintro e w61 ⟨rfl, hb⟩; refine ⟨_, rfl, ?_⟩; have n0_ := Aside0.mk (below_step (by repeat (first | (with_reducible first | exact HB.out | apply below_alloc | apply pw_below_drewN | apply below_drew1) | exact HB.out)) hb); clear HB; have HB := n0_; clear n0_; (try clear hb); (try clear hb2); (try clear hk); (try clear hi)))
                                  go_ret
                                  exact ⟨by first | rfl | (simp [errW_none, errW_some] <;> rfl) | (simp [*, errW_none, errW_some] <;> rfl) | (simp only [IntWalk.i64_left]; rfl), by repeat (first | (with_reducible first | exact HB.out | apply below_alloc | apply pw_below_drewN | apply below_drew1) | exact HB.out)⟩
                                · rw [if_neg c60] at H
                                  have c60b0 : ((wrap64 (Int.tdiv (wrap64 (a0 * a1)) a1)) == a0) = false := beq_eq_false_iff_ne.mpr c60
                                  exact absurd (c54b0.symm.trans c60b0) (by decide)
                              · rw [if_neg c59] at H
                                have c59b0 : (t253 == ((wrap64 (Int.tdiv (wrap64 (a0 * a1)) a1)) == a0)) = false := by simpa using c59
                                (try (have c59b1 : decide (t253 = ((wrap64 (Int.tdiv (wrap64 (a0 * a1)) a1)) == a0)) = false := by simpa using c59))
                                (try (have c59b2 : (t253 == ((wrap64 (Int.tdiv (wrap64 (a0 * a1)) a1)) == a0)) = false := by simpa using c59))
                                (try (have c59b3 : ¬ (t253 = ((wrap64 (Int.tdiv (wrap64 (a0 * a1)) a1)) == a0)) := by simpa using c59))
                                clear c59
                                have e59 : t253 = !((wrap64 (Int.tdiv (wrap64 (a0 * a1)) a1)) == a0) := by have q_ := c59b0; revert q_; cases t253 <;> cases ((wrap64 (Int.tdiv (wrap64 (a0 * a1)) a1)) == a0) <;> simp
                                subst e59
                                obtain rfl := Option.some.inj H
                                go_wp2_with (first | ((with_reducible refine gate_callee (f := 10) rfl ?_); refine goesL_ (some 138) rfl rfl Try.func10 (by kernel_rfl) rfl #[] rfl (by (try simp only [List.map_toArray, List.map_cons, List.map_nil]); first | done | rfl | (simp only [List.length_drop, List.length_take]; rfl)) ?_; (with_reducible refine (vesperslaw01_fixed.calls kj34  true _ A57.out).mono ?_); rintro e w63 ⟨rfl, hb⟩; refine ⟨_, rfl, ?_⟩; have n0_ := Aside0.mk (below_step (by repeat (first | (with_reducible first | exact HB.out | apply below_alloc | apply pw_below_drewN | apply below_drew1) | exact HB.out)) hb); clear HB; have HB := n0_; clear n0_; (try clear hb); (try clear hb2); (try clear hk); (try clear hi)))
                                go_ret
                                exact ⟨by first | rfl | (simp [errW_none, errW_some] <;> rfl) | (simp [*, errW_none, errW_some] <;> rfl) | (simp only [IntWalk.i64_left]; rfl), by repeat (first | (with_reducible first | exact HB.out | apply below_alloc | apply pw_below_drewN | apply below_drew1) | exact HB.out)⟩
                            · replace c58 := Bool.eq_false_iff.mpr c58
                              subst c58
                              have H1 : (some false) = some r := by rw [if_neg (show ¬ (false = true) by decide)] at H; exact H
                              clear H
                              have H := H1
                              clear H1
                              obtain rfl := Option.some.inj H
                              go_wp2_with (first | ((with_reducible refine gate_callee (f := 10) rfl ?_); refine goesL_ (some 138) rfl rfl Try.func10 (by kernel_rfl) rfl #[] rfl (by (try simp only [List.map_toArray, List.map_cons, List.map_nil]); first | done | rfl | (simp only [List.length_drop, List.length_take]; rfl)) ?_; (with_reducible refine (vesperslaw01_fixed.calls kj34  false _ A57.out).mono ?_); rintro e w64 ⟨rfl, hb⟩; refine ⟨_, rfl, ?_⟩; have n0_ := Aside0.mk (below_step (by repeat (first | (with_reducible first | exact HB.out | apply below_alloc | apply pw_below_drewN | apply below_drew1) | exact HB.out)) hb); clear HB; have HB := n0_; clear n0_; (try clear hb); (try clear hb2); (try clear hk); (try clear hi)))
                              go_ret
                              exact ⟨by first | rfl | (simp [errW_none, errW_some] <;> rfl) | (simp [*, errW_none, errW_some] <;> rfl) | (simp only [IntWalk.i64_left]; rfl), by repeat (first | (with_reducible first | exact HB.out | apply below_alloc | apply pw_below_drewN | apply below_drew1) | exact HB.out)⟩
                          · rw [if_neg c56] at H
                            have c56b0 : ((decide (a0 < 0)) != (decide (a1 < 0))) = false := by simpa using c56
                            (try (have c56b1 : decide ((decide (a0 < 0)) = (decide (a1 < 0))) = true := by simpa using c56))
                            (try (have c56b2 : ((decide (a0 < 0)) == (decide (a1 < 0))) = true := by simpa using c56))
                            clear c56
                            replace H := Option.bind_eq_some_iff.mp H
                            obtain ⟨t258, A650, H⟩ := H
                            replace H : (if t258 = true then (if (t253 == false) = true then (some true) else (some false)) else (some false)) = some r := H
                            have A65 := Aside0.mk A650
                            clear A650
                            by_cases c66 : t258 = true
                            · subst c66
                              have H1 : (if (t253 == false) = true then (some true) else (some false)) = some r := by rw [if_pos rfl] at H; exact H
                              clear H
                              have H := H1
                              clear H1
                              by_cases c67 : (t253 == false) = true
                              · rw [if_pos c67] at H
                                have c67b0 : (t253 == false) = true := c67
                                (try (have c67b1 : decide (t253 = false) = true := by simpa using c67))
                                (try (have c67b2 : (t253 == false) = true := by simpa using c67))
                                clear c67
                                obtain rfl := Option.some.inj H
                                go_wp2_with (first | ((with_reducible refine gate_callee (f := 10) rfl ?_); refine goesL_ (some 138) rfl rfl Try.func10 (by kernel_rfl) rfl #[] rfl (by (try simp only [List.map_toArray, List.map_cons, List.map_nil]); first | done | rfl | (simp only [List.length_drop, List.length_take]; rfl)) ?_; (with_reducible refine (vesperslaw01_fixed.calls kj34  true _ A65.out).mono ?_); rintro e w68 ⟨rfl, hb⟩; refine ⟨_, rfl, ?_⟩; have n0_ := Aside0.mk (below_step (by repeat (first | (with_reducible first | exact HB.out | apply below_alloc | apply pw_below_drewN | apply below_drew1) | exact HB.out)) hb); clear HB; have HB := n0_; clear n0_; (try clear hb); (try clear hb2); (try clear hk); (try clear hi)))
                                go_ret
                                exact ⟨by first | rfl | (simp [errW_none, errW_some] <;> rfl) | (simp [*, errW_none, errW_some] <;> rfl) | (simp only [IntWalk.i64_left]; rfl), by repeat (first | (with_reducible first | exact HB.out | apply below_alloc | apply pw_below_drewN | apply below_drew1) | exact HB.out)⟩
                              · rw [if_neg c67] at H
                                have c67b0 : (t253 == false) = false := by simpa using c67
                                (try (have c67b1 : decide (t253 = false) = false := by simpa using c67))
                                (try (have c67b2 : (t253 == false) = false := by simpa using c67))
                                (try (have c67b3 : ¬ (t253 = false) := by simpa using c67))
                                clear c67
                                obtain rfl := Option.some.inj H
                                go_wp2_with (first | ((with_reducible refine gate_callee (f := 10) rfl ?_); refine goesL_ (some 138) rfl rfl Try.func10 (by kernel_rfl) rfl #[] rfl (by (try simp only [List.map_toArray, List.map_cons, List.map_nil]); first | done | rfl | (simp only [List.length_drop, List.length_take]; rfl)) ?_; (with_reducible refine (vesperslaw01_fixed.calls kj34  true _ A65.out).mono ?_); rintro e w69 ⟨rfl, hb⟩; refine ⟨_, rfl, ?_⟩; have n0_ := Aside0.mk (below_step (by repeat (first | (with_reducible first | exact HB.out | apply below_alloc | apply pw_below_drewN | apply below_drew1) | exact HB.out)) hb); clear HB; have HB := n0_; clear n0_; (try clear hb); (try clear hb2); (try clear hk); (try clear hi)))
                                go_ret
                                exact ⟨by first | rfl | (simp [errW_none, errW_some] <;> rfl) | (simp [*, errW_none, errW_some] <;> rfl) | (simp only [IntWalk.i64_left]; rfl), by repeat (first | (with_reducible first | exact HB.out | apply below_alloc | apply pw_below_drewN | apply below_drew1) | exact HB.out)⟩
                            · replace c66 := Bool.eq_false_iff.mpr c66
                              subst c66
                              have H1 : (some false) = some r := by rw [if_neg (show ¬ (false = true) by decide)] at H; exact H
                              clear H
                              have H := H1
                              clear H1
                              obtain rfl := Option.some.inj H
                              go_wp2_with (first | ((with_reducible refine gate_callee (f := 10) rfl ?_); refine goesL_ (some 138) rfl rfl Try.func10 (by kernel_rfl) rfl #[] rfl (by (try simp only [List.map_toArray, List.map_cons, List.map_nil]); first | done | rfl | (simp only [List.length_drop, List.length_take]; rfl)) ?_; (with_reducible refine (vesperslaw01_fixed.calls kj34  false _ A65.out).mono ?_); rintro e w70 ⟨rfl, hb⟩; refine ⟨_, rfl, ?_⟩; have n0_ := Aside0.mk (below_step (by repeat (first | (with_reducible first | exact HB.out | apply below_alloc | apply pw_below_drewN | apply below_drew1) | exact HB.out)) hb); clear HB; have HB := n0_; clear n0_; (try clear hb); (try clear hb2); (try clear hk); (try clear hi)))
                              go_ret
                              exact ⟨by first | rfl | (simp [errW_none, errW_some] <;> rfl) | (simp [*, errW_none, errW_some] <;> rfl) | (simp only [IntWalk.i64_left]; rfl), by repeat (first | (with_reducible first | exact HB.out | apply below_alloc | apply pw_below_drewN | apply below_drew1) | exact HB.out)⟩
                        · rw [if_neg c55] at H
                          have c55b0 : ((wrap64 (a0 * a1)) == (-9223372036854775808)) = false := beq_eq_false_iff_ne.mpr c55
                          have c55b1 : ((wrap64 (a0 * a1)) != (-9223372036854775808)) = true := bne_iff_ne.mpr c55
                          replace H := Option.bind_eq_some_iff.mp H
                          obtain ⟨t259, A710, H⟩ := H
                          replace H : (if t259 = true then (if (t253 == true) = true then (some (t252 == (wrap64 (a0 * a1)))) else (some false)) else (some false)) = some r := H
                          have A71 := Aside0.mk A710
                          clear A710
                          by_cases c72 : t259 = true
                          · subst c72
                            have H1 : (if (t253 == true) = true then (some (t252 == (wrap64 (a0 * a1)))) else (some false)) = some r := by rw [if_pos rfl] at H; exact H
                            clear H
                            have H := H1
                            clear H1
                            by_cases c73 : (t253 == true) = true
                            · rw [if_pos c73] at H
                              have c73b0 : (t253 == true) = true := c73
                              (try (have c73b1 : decide (t253 = true) = true := by simpa using c73))
                              (try (have c73b2 : (t253 == true) = true := by simpa using c73))
                              clear c73
                              obtain rfl := Option.some.inj H
                              go_wp2_with (first | ((with_reducible refine gate_callee (f := 10) rfl ?_); refine goesL_ (some 138) rfl rfl Try.func10 (by kernel_rfl) rfl #[] rfl (by (try simp only [List.map_toArray, List.map_cons, List.map_nil]); first | done | rfl | (simp only [List.length_drop, List.length_take]; rfl)) ?_; (with_reducible refine (vesperslaw01_fixed.calls kj34  true _ A71.out).mono ?_); rintro e w74 ⟨rfl, hb⟩; refine ⟨_, rfl, ?_⟩; have n0_ := Aside0.mk (below_step (by repeat (first | (with_reducible first | exact HB.out | apply below_alloc | apply pw_below_drewN | apply below_drew1) | exact HB.out)) hb); clear HB; have HB := n0_; clear n0_; (try clear hb); (try clear hb2); (try clear hk); (try clear hi)))
                              go_ret
                              exact ⟨by first | rfl | (simp [errW_none, errW_some] <;> rfl) | (simp [*, errW_none, errW_some] <;> rfl) | (simp only [IntWalk.i64_left]; rfl), by repeat (first | (with_reducible first | exact HB.out | apply below_alloc | apply pw_below_drewN | apply below_drew1) | exact HB.out)⟩
                            · rw [if_neg c73] at H
                              have c73b0 : (t253 == true) = false := by simpa using c73
                              (try (have c73b1 : decide (t253 = true) = false := by simpa using c73))
                              (try (have c73b2 : (t253 == true) = false := by simpa using c73))
                              (try (have c73b3 : ¬ (t253 = true) := by simpa using c73))
                              clear c73
                              obtain rfl := Option.some.inj H
                              go_wp2_with (first | ((with_reducible refine gate_callee (f := 10) rfl ?_); refine goesL_ (some 138) rfl rfl Try.func10 (by kernel_rfl) rfl #[] rfl (by (try simp only [List.map_toArray, List.map_cons, List.map_nil]); first | done | rfl | (simp only [List.length_drop, List.length_take]; rfl)) ?_; (with_reducible refine (vesperslaw01_fixed.calls kj34  true _ A71.out).mono ?_); rintro e w75 ⟨rfl, hb⟩; refine ⟨_, rfl, ?_⟩; have n0_ := Aside0.mk (below_step (by repeat (first | (with_reducible first | exact HB.out | apply below_alloc | apply pw_below_drewN | apply below_drew1) | exact HB.out)) hb); clear HB; have HB := n0_; clear n0_; (try clear hb); (try clear hb2); (try clear hk); (try clear hi)))
                              go_ret
                              exact ⟨by first | rfl | (simp [errW_none, errW_some] <;> rfl) | (simp [*, errW_none, errW_some] <;> rfl) | (simp only [IntWalk.i64_left]; rfl), by repeat (first | (with_reducible first | exact HB.out | apply below_alloc | apply pw_below_drewN | apply below_drew1) | exact HB.out)⟩
                          · replace c72 := Bool.eq_false_iff.mpr c72
                            subst c72
                            have H1 : (some false) = some r := by rw [if_neg (show ¬ (false = true) by decide)] at H; exact H
                            clear H
                            have H := H1
                            clear H1
                            obtain rfl := Option.some.inj H
                            go_wp2_with (first | ((with_reducible refine gate_callee (f := 10) rfl ?_); refine goesL_ (some 138) rfl rfl Try.func10 (by kernel_rfl) rfl #[] rfl (by (try simp only [List.map_toArray, List.map_cons, List.map_nil]); first | done | rfl | (simp only [List.length_drop, List.length_take]; rfl)) ?_; (with_reducible refine (vesperslaw01_fixed.calls kj34  false _ A71.out).mono ?_); rintro e w76 ⟨rfl, hb⟩; refine ⟨_, rfl, ?_⟩; have n0_ := Aside0.mk (below_step (by repeat (first | (with_reducible first | exact HB.out | apply below_alloc | apply pw_below_drewN | apply below_drew1) | exact HB.out)) hb); clear HB; have HB := n0_; clear n0_; (try clear hb); (try clear hb2); (try clear hk); (try clear hi)))
                            go_ret
                            exact ⟨by first | rfl | (simp [errW_none, errW_some] <;> rfl) | (simp [*, errW_none, errW_some] <;> rfl) | (simp only [IntWalk.i64_left]; rfl), by repeat (first | (with_reducible first | exact HB.out | apply below_alloc | apply pw_below_drewN | apply below_drew1) | exact HB.out)⟩
                      · rw [if_neg c54] at H
                        have c54b0 : ((wrap64 (Int.tdiv (wrap64 (a0 * a1)) a1)) == a0) = false := beq_eq_false_iff_ne.mpr c54
                        have c54b1 : ((wrap64 (Int.tdiv (wrap64 (a0 * a1)) a1)) != a0) = true := bne_iff_ne.mpr c54
                        by_cases c77 : (wrap64 (a0 * a1)) = (-9223372036854775808)
                        · rw [if_pos c77] at H
                          have c77b0 : ((wrap64 (a0 * a1)) == (-9223372036854775808)) = true := beq_iff_eq.mpr c77
                          have c77b1 : ((wrap64 (a0 * a1)) != (-9223372036854775808)) = false := bne_eq_false_iff_eq.mpr c77
                          clear c77
                          by_cases c78 : ((decide (a0 < 0)) != (decide (a1 < 0))) = true
                          · rw [if_pos c78] at H
                            have c78b0 : ((decide (a0 < 0)) != (decide (a1 < 0))) = true := c78
                            (try (have c78b1 : decide ((decide (a0 < 0)) = (decide (a1 < 0))) = false := by simpa using c78))
                            (try (have c78b2 : ((decide (a0 < 0)) == (decide (a1 < 0))) = false := by simpa using c78))
                            (try (have c78b3 : ¬ ((decide (a0 < 0)) = (decide (a1 < 0))) := by simpa using c78))
                            clear c78
                            replace H := Option.bind_eq_some_iff.mp H
                            obtain ⟨t260, A790, H⟩ := H
                            replace H : (if t260 = true then (if (t253 == ((wrap64 (Int.tdiv (wrap64 (a0 * a1)) a1)) == a0)) = true then (if ((wrap64 (Int.tdiv (wrap64 (a0 * a1)) a1)) = a0) then (some (t252 == (wrap64 (a0 * a1)))) else (some true)) else (some false)) else (some false)) = some r := H
                            have A79 := Aside0.mk A790
                            clear A790
                            by_cases c80 : t260 = true
                            · subst c80
                              have H1 : (if (t253 == ((wrap64 (Int.tdiv (wrap64 (a0 * a1)) a1)) == a0)) = true then (if ((wrap64 (Int.tdiv (wrap64 (a0 * a1)) a1)) = a0) then (some (t252 == (wrap64 (a0 * a1)))) else (some true)) else (some false)) = some r := by rw [if_pos rfl] at H; exact H
                              clear H
                              have H := H1
                              clear H1
                              by_cases c81 : (t253 == ((wrap64 (Int.tdiv (wrap64 (a0 * a1)) a1)) == a0)) = true
                              · rw [if_pos c81] at H
                                have c81b0 : (t253 == ((wrap64 (Int.tdiv (wrap64 (a0 * a1)) a1)) == a0)) = true := c81
                                (try (have c81b1 : decide (t253 = ((wrap64 (Int.tdiv (wrap64 (a0 * a1)) a1)) == a0)) = true := by simpa using c81))
                                (try (have c81b2 : (t253 == ((wrap64 (Int.tdiv (wrap64 (a0 * a1)) a1)) == a0)) = true := by simpa using c81))
                                clear c81
                                have e81 : t253 = ((wrap64 (Int.tdiv (wrap64 (a0 * a1)) a1)) == a0) := eq_of_beq c81b0
                                subst e81
                                by_cases c82 : ((wrap64 (Int.tdiv (wrap64 (a0 * a1)) a1)) = a0)
                                · rw [if_pos c82] at H
                                  have c82b0 : ((wrap64 (Int.tdiv (wrap64 (a0 * a1)) a1)) == a0) = true := beq_iff_eq.mpr c82
                                  exact absurd (c82b0.symm.trans c54b0) (by decide)
                                · rw [if_neg c82] at H
                                  have c82b0 : ((wrap64 (Int.tdiv (wrap64 (a0 * a1)) a1)) == a0) = false := beq_eq_false_iff_ne.mpr c82
                                  have c82b1 : ((wrap64 (Int.tdiv (wrap64 (a0 * a1)) a1)) != a0) = true := bne_iff_ne.mpr c82
                                  obtain rfl := Option.some.inj H
                                  go_wp2_with (first | ((with_reducible refine gate_callee (f := 10) rfl ?_); refine goesL_ (some 138) rfl rfl Try.func10 (by kernel_rfl) rfl #[] rfl (by (try simp only [List.map_toArray, List.map_cons, List.map_nil]); first | done | rfl | (simp only [List.length_drop, List.length_take]; rfl)) ?_; (with_reducible refine (vesperslaw01_fixed.calls kj34  true _ A79.out).mono ?_); rintro e w84 ⟨rfl, hb⟩; refine ⟨_, rfl, ?_⟩; have n0_ := Aside0.mk (below_step (by repeat (first | (with_reducible first | exact HB.out | apply below_alloc | apply pw_below_drewN | apply below_drew1) | exact HB.out)) hb); clear HB; have HB := n0_; clear n0_; (try clear hb); (try clear hb2); (try clear hk); (try clear hi)))
                                  go_ret
                                  exact ⟨by first | rfl | (simp [errW_none, errW_some] <;> rfl) | (simp [*, errW_none, errW_some] <;> rfl) | (simp only [IntWalk.i64_left]; rfl), by repeat (first | (with_reducible first | exact HB.out | apply below_alloc | apply pw_below_drewN | apply below_drew1) | exact HB.out)⟩
                              · rw [if_neg c81] at H
                                have c81b0 : (t253 == ((wrap64 (Int.tdiv (wrap64 (a0 * a1)) a1)) == a0)) = false := by simpa using c81
                                (try (have c81b1 : decide (t253 = ((wrap64 (Int.tdiv (wrap64 (a0 * a1)) a1)) == a0)) = false := by simpa using c81))
                                (try (have c81b2 : (t253 == ((wrap64 (Int.tdiv (wrap64 (a0 * a1)) a1)) == a0)) = false := by simpa using c81))
                                (try (have c81b3 : ¬ (t253 = ((wrap64 (Int.tdiv (wrap64 (a0 * a1)) a1)) == a0)) := by simpa using c81))
                                clear c81
                                have e81 : t253 = !((wrap64 (Int.tdiv (wrap64 (a0 * a1)) a1)) == a0) := by have q_ := c81b0; revert q_; cases t253 <;> cases ((wrap64 (Int.tdiv (wrap64 (a0 * a1)) a1)) == a0) <;> simp
                                subst e81
                                obtain rfl := Option.some.inj H
                                go_wp2_with (first | ((with_reducible refine gate_callee (f := 10) rfl ?_); refine goesL_ (some 138) rfl rfl Try.func10 (by kernel_rfl) rfl #[] rfl (by (try simp only [List.map_toArray, List.map_cons, List.map_nil]); first | done | rfl | (simp only [List.length_drop, List.length_take]; rfl)) ?_; (with_reducible refine (vesperslaw01_fixed.calls kj34  true _ A79.out).mono ?_); rintro e w85 ⟨rfl, hb⟩; refine ⟨_, rfl, ?_⟩; have n0_ := Aside0.mk (below_step (by repeat (first | (with_reducible first | exact HB.out | apply below_alloc | apply pw_below_drewN | apply below_drew1) | exact HB.out)) hb); clear HB; have HB := n0_; clear n0_; (try clear hb); (try clear hb2); (try clear hk); (try clear hi)))
                                go_ret
                                exact ⟨by first | rfl | (simp [errW_none, errW_some] <;> rfl) | (simp [*, errW_none, errW_some] <;> rfl) | (simp only [IntWalk.i64_left]; rfl), by repeat (first | (with_reducible first | exact HB.out | apply below_alloc | apply pw_below_drewN | apply below_drew1) | exact HB.out)⟩
                            · replace c80 := Bool.eq_false_iff.mpr c80
                              subst c80
                              have H1 : (some false) = some r := by rw [if_neg (show ¬ (false = true) by decide)] at H; exact H
                              clear H
                              have H := H1
                              clear H1
                              obtain rfl := Option.some.inj H
                              go_wp2_with (first | ((with_reducible refine gate_callee (f := 10) rfl ?_); refine goesL_ (some 138) rfl rfl Try.func10 (by kernel_rfl) rfl #[] rfl (by (try simp only [List.map_toArray, List.map_cons, List.map_nil]); first | done | rfl | (simp only [List.length_drop, List.length_take]; rfl)) ?_; (with_reducible refine (vesperslaw01_fixed.calls kj34  false _ A79.out).mono ?_); rintro e w86 ⟨rfl, hb⟩; refine ⟨_, rfl, ?_⟩; have n0_ := Aside0.mk (below_step (by repeat (first | (with_reducible first | exact HB.out | apply below_alloc | apply pw_below_drewN | apply below_drew1) | exact HB.out)) hb); clear HB; have HB := n0_; clear n0_; (try clear hb); (try clear hb2); (try clear hk); (try clear hi)))
                              go_ret
                              exact ⟨by first | rfl | (simp [errW_none, errW_some] <;> rfl) | (simp [*, errW_none, errW_some] <;> rfl) | (simp only [IntWalk.i64_left]; rfl), by repeat (first | (with_reducible first | exact HB.out | apply below_alloc | apply pw_below_drewN | apply below_drew1) | exact HB.out)⟩
                          · rw [if_neg c78] at H
                            have c78b0 : ((decide (a0 < 0)) != (decide (a1 < 0))) = false := by simpa using c78
                            (try (have c78b1 : decide ((decide (a0 < 0)) = (decide (a1 < 0))) = true := by simpa using c78))
                            (try (have c78b2 : ((decide (a0 < 0)) == (decide (a1 < 0))) = true := by simpa using c78))
                            clear c78
                            replace H := Option.bind_eq_some_iff.mp H
                            obtain ⟨t261, A870, H⟩ := H
                            replace H : (if t261 = true then (if (t253 == false) = true then (some true) else (some false)) else (some false)) = some r := H
                            have A87 := Aside0.mk A870
                            clear A870
                            by_cases c88 : t261 = true
                            · subst c88
                              have H1 : (if (t253 == false) = true then (some true) else (some false)) = some r := by rw [if_pos rfl] at H; exact H
                              clear H
                              have H := H1
                              clear H1
                              by_cases c89 : (t253 == false) = true
                              · rw [if_pos c89] at H
                                have c89b0 : (t253 == false) = true := c89
                                (try (have c89b1 : decide (t253 = false) = true := by simpa using c89))
                                (try (have c89b2 : (t253 == false) = true := by simpa using c89))
                                clear c89
                                obtain rfl := Option.some.inj H
                                go_wp2_with (first | ((with_reducible refine gate_callee (f := 10) rfl ?_); refine goesL_ (some 138) rfl rfl Try.func10 (by kernel_rfl) rfl #[] rfl (by (try simp only [List.map_toArray, List.map_cons, List.map_nil]); first | done | rfl | (simp only [List.length_drop, List.length_take]; rfl)) ?_; (with_reducible refine (vesperslaw01_fixed.calls kj34  true _ A87.out).mono ?_); rintro e w90 ⟨rfl, hb⟩; refine ⟨_, rfl, ?_⟩; have n0_ := Aside0.mk (below_step (by repeat (first | (with_reducible first | exact HB.out | apply below_alloc | apply pw_below_drewN | apply below_drew1) | exact HB.out)) hb); clear HB; have HB := n0_; clear n0_; (try clear hb); (try clear hb2); (try clear hk); (try clear hi)))
                                go_ret
                                exact ⟨by first | rfl | (simp [errW_none, errW_some] <;> rfl) | (simp [*, errW_none, errW_some] <;> rfl) | (simp only [IntWalk.i64_left]; rfl), by repeat (first | (with_reducible first | exact HB.out | apply below_alloc | apply pw_below_drewN | apply below_drew1) | exact HB.out)⟩
                              · rw [if_neg c89] at H
                                have c89b0 : (t253 == false) = false := by simpa using c89
                                (try (have c89b1 : decide (t253 = false) = false := by simpa using c89))
                                (try (have c89b2 : (t253 == false) = false := by simpa using c89))
                                (try (have c89b3 : ¬ (t253 = false) := by simpa using c89))
                                clear c89
                                obtain rfl := Option.some.inj H
                                go_wp2_with (first | ((with_reducible refine gate_callee (f := 10) rfl ?_); refine goesL_ (some 138) rfl rfl Try.func10 (by kernel_rfl) rfl #[] rfl (by (try simp only [List.map_toArray, List.map_cons, List.map_nil]); first | done | rfl | (simp only [List.length_drop, List.length_take]; rfl)) ?_; (with_reducible refine (vesperslaw01_fixed.calls kj34  true _ A87.out).mono ?_); rintro e w91 ⟨rfl, hb⟩; refine ⟨_, rfl, ?_⟩; have n0_ := Aside0.mk (below_step (by repeat (first | (with_reducible first | exact HB.out | apply below_alloc | apply pw_below_drewN | apply below_drew1) | exact HB.out)) hb); clear HB; have HB := n0_; clear n0_; (try clear hb); (try clear hb2); (try clear hk); (try clear hi)))
                                go_ret
                                exact ⟨by first | rfl | (simp [errW_none, errW_some] <;> rfl) | (simp [*, errW_none, errW_some] <;> rfl) | (simp only [IntWalk.i64_left]; rfl), by repeat (first | (with_reducible first | exact HB.out | apply below_alloc | apply pw_below_drewN | apply below_drew1) | exact HB.out)⟩
                            · replace c88 := Bool.eq_false_iff.mpr c88
                              subst c88
                              have H1 : (some false) = some r := by rw [if_neg (show ¬ (false = true) by decide)] at H; exact H
                              clear H
                              have H := H1
                              clear H1
                              obtain rfl := Option.some.inj H
                              go_wp2_with (first | ((with_reducible refine gate_callee (f := 10) rfl ?_); refine goesL_ (some 138) rfl rfl Try.func10 (by kernel_rfl) rfl #[] rfl (by (try simp only [List.map_toArray, List.map_cons, List.map_nil]); first | done | rfl | (simp only [List.length_drop, List.length_take]; rfl)) ?_; (with_reducible refine (vesperslaw01_fixed.calls kj34  false _ A87.out).mono ?_); rintro e w92 ⟨rfl, hb⟩; refine ⟨_, rfl, ?_⟩; have n0_ := Aside0.mk (below_step (by repeat (first | (with_reducible first | exact HB.out | apply below_alloc | apply pw_below_drewN | apply below_drew1) | exact HB.out)) hb); clear HB; have HB := n0_; clear n0_; (try clear hb); (try clear hb2); (try clear hk); (try clear hi)))
                              go_ret
                              exact ⟨by first | rfl | (simp [errW_none, errW_some] <;> rfl) | (simp [*, errW_none, errW_some] <;> rfl) | (simp only [IntWalk.i64_left]; rfl), by repeat (first | (with_reducible first | exact HB.out | apply below_alloc | apply pw_below_drewN | apply below_drew1) | exact HB.out)⟩
                        · rw [if_neg c77] at H
                          have c77b0 : ((wrap64 (a0 * a1)) == (-9223372036854775808)) = false := beq_eq_false_iff_ne.mpr c77
                          have c77b1 : ((wrap64 (a0 * a1)) != (-9223372036854775808)) = true := bne_iff_ne.mpr c77
                          replace H := Option.bind_eq_some_iff.mp H
                          obtain ⟨t262, A930, H⟩ := H
                          replace H : (if t262 = true then (if (t253 == false) = true then (some true) else (some false)) else (some false)) = some r := H
                          have A93 := Aside0.mk A930
                          clear A930
                          by_cases c94 : t262 = true
                          · subst c94
                            have H1 : (if (t253 == false) = true then (some true) else (some false)) = some r := by rw [if_pos rfl] at H; exact H
                            clear H
                            have H := H1
                            clear H1
                            by_cases c95 : (t253 == false) = true
                            · rw [if_pos c95] at H
                              have c95b0 : (t253 == false) = true := c95
                              (try (have c95b1 : decide (t253 = false) = true := by simpa using c95))
                              (try (have c95b2 : (t253 == false) = true := by simpa using c95))
                              clear c95
                              obtain rfl := Option.some.inj H
                              go_wp2_with (first | ((with_reducible refine gate_callee (f := 10) rfl ?_); refine goesL_ (some 138) rfl rfl Try.func10 (by kernel_rfl) rfl #[] rfl (by (try simp only [List.map_toArray, List.map_cons, List.map_nil]); first | done | rfl | (simp only [List.length_drop, List.length_take]; rfl)) ?_; (with_reducible refine (vesperslaw01_fixed.calls kj34  true _ A93.out).mono ?_); rintro e w96 ⟨rfl, hb⟩; refine ⟨_, rfl, ?_⟩; have n0_ := Aside0.mk (below_step (by repeat (first | (with_reducible first | exact HB.out | apply below_alloc | apply pw_below_drewN | apply below_drew1) | exact HB.out)) hb); clear HB; have HB := n0_; clear n0_; (try clear hb); (try clear hb2); (try clear hk); (try clear hi)))
                              go_ret
                              exact ⟨by first | rfl | (simp [errW_none, errW_some] <;> rfl) | (simp [*, errW_none, errW_some] <;> rfl) | (simp only [IntWalk.i64_left]; rfl), by repeat (first | (with_reducible first | exact HB.out | apply below_alloc | apply pw_below_drewN | apply below_drew1) | exact HB.out)⟩
                            · rw [if_neg c95] at H
                              have c95b0 : (t253 == false) = false := by simpa using c95
                              (try (have c95b1 : decide (t253 = false) = false := by simpa using c95))
                              (try (have c95b2 : (t253 == false) = false := by simpa using c95))
                              (try (have c95b3 : ¬ (t253 = false) := by simpa using c95))
                              clear c95
                              obtain rfl := Option.some.inj H
                              go_wp2_with (first | ((with_reducible refine gate_callee (f := 10) rfl ?_); refine goesL_ (some 138) rfl rfl Try.func10 (by kernel_rfl) rfl #[] rfl (by (try simp only [List.map_toArray, List.map_cons, List.map_nil]); first | done | rfl | (simp only [List.length_drop, List.length_take]; rfl)) ?_; (with_reducible refine (vesperslaw01_fixed.calls kj34  true _ A93.out).mono ?_); rintro e w97 ⟨rfl, hb⟩; refine ⟨_, rfl, ?_⟩; have n0_ := Aside0.mk (below_step (by repeat (first | (with_reducible first | exact HB.out | apply below_alloc | apply pw_below_drewN | apply below_drew1) | exact HB.out)) hb); clear HB; have HB := n0_; clear n0_; (try clear hb); (try clear hb2); (try clear hk); (try clear hi)))
                              go_ret
                              exact ⟨by first | rfl | (simp [errW_none, errW_some] <;> rfl) | (simp [*, errW_none, errW_some] <;> rfl) | (simp only [IntWalk.i64_left]; rfl), by repeat (first | (with_reducible first | exact HB.out | apply below_alloc | apply pw_below_drewN | apply below_drew1) | exact HB.out)⟩
                          · replace c94 := Bool.eq_false_iff.mpr c94
                            subst c94
                            have H1 : (some false) = some r := by rw [if_neg (show ¬ (false = true) by decide)] at H; exact H
                            clear H
                            have H := H1
                            clear H1
                            obtain rfl := Option.some.inj H
                            go_wp2_with (first | ((with_reducible refine gate_callee (f := 10) rfl ?_); refine goesL_ (some 138) rfl rfl Try.func10 (by kernel_rfl) rfl #[] rfl (by (try simp only [List.map_toArray, List.map_cons, List.map_nil]); first | done | rfl | (simp only [List.length_drop, List.length_take]; rfl)) ?_; (with_reducible refine (vesperslaw01_fixed.calls kj34  false _ A93.out).mono ?_); rintro e w98 ⟨rfl, hb⟩; refine ⟨_, rfl, ?_⟩; have n0_ := Aside0.mk (below_step (by repeat (first | (with_reducible first | exact HB.out | apply below_alloc | apply pw_below_drewN | apply below_drew1) | exact HB.out)) hb); clear HB; have HB := n0_; clear n0_; (try clear hb); (try clear hb2); (try clear hk); (try clear hi)))
                            go_ret
                            exact ⟨by first | rfl | (simp [errW_none, errW_some] <;> rfl) | (simp [*, errW_none, errW_some] <;> rfl) | (simp only [IntWalk.i64_left]; rfl), by repeat (first | (with_reducible first | exact HB.out | apply below_alloc | apply pw_below_drewN | apply below_drew1) | exact HB.out)⟩

/-- THE ONE PURE STATEMENT of vesperslaw01_CivilSums: yours. -/
def vesperslaw01_CivilSums.Pure : Prop := ∀ (a0 : Int) (a1 : Int), (Lit.int .i64 a0).wf = true → (Lit.int .i64 a1).wf = true → ∃ k, vesperslaw01_CivilSums.f k a0 a1 = some true
theorem vesperslaw01_CivilSums.walk (P : vesperslaw01_CivilSums.Pure) (a0 : Int) (a1 : Int) (w : World) (w0 : (Lit.int .i64 a0).wf = true) (w1 : (Lit.int .i64 a1).wf = true) :
    Calls Try.prog 9 #[.int .i64 a0, .int .i64 a1] w fun e w' => e = .returned (.bool true) ∧ Below w.heap.size w w' := by
  obtain ⟨k, h⟩ := P a0 a1 w0 w1
  refine (vesperslaw01_CivilSums.calls k a0 a1 true w h).mono ?_
  rintro e w' ⟨rfl, hd⟩
  exact ⟨rfl, hd⟩

end Go.Proofs.Ytoigdebcpmgknaa.Own
