-- own text: made by a program of this session out of the plain functions' print
import Derived.Test.YthpibikfecjoiaaOwnx0
namespace Go.Proofs.Ythpibikfecjoiaa.Own
open Go.RowKit Go.Proofs.YthpibikfecjoiaaW.PrintWords Go.Proofs.YthpibikfecjoiaaW.PrintLast Go.Proofs.YthpibikfecjoiaaW.PrintMore
attribute [local go_sem] max2_int min2_int max_two min_two max_three min_three max_four min_four   -- for this text's walks alone
set_option linter.unusedVariables false
set_option linter.unusedSimpArgs false

/-! ### slices_Index_int_int: function 20 -/
def slices_Index_int_int.l0 : Nat → List Int → Int → Int → Int → Option (Int)
  | 0, _, _, _, _ => none
  | k + 1, x0, x1, x7, x8 => if x8 < x7 then (if 0 ≤ x8 then (if x8 < (x0.length : Int) then (if x1 = (rd x0 x8) then (some x8) else (slices_Index_int_int.l0 k x0 x1 x7 (wrap64 (x8 + 1)))) else (none)) else (none)) else (some (-1))
def slices_Index_int_int.f (k : Nat) (l0 : List Int) (a1 : Int) : Option (Int) := slices_Index_int_int.l0 k l0 a1 (l0.length : Int) 0
theorem slices_Index_int_int.mono_l : ∀ k, (∀ y0 y1 y2 y3, LeO (slices_Index_int_int.l0 k y0 y1 y2 y3) (slices_Index_int_int.l0 (k + 1) y0 y1 y2 y3))
  | 0 => fun _ _ _ _ r h => by simp [slices_Index_int_int.l0] at h
  | k + 1 => by
    have ih0 := slices_Index_int_int.mono_l k
    · intro y0 y1 y2 y3
      unfold slices_Index_int_int.l0
      repeat' first
      | (with_reducible exact ih0 _ _ _ _)
      | (with_reducible exact LeO.refl _)
      | (with_reducible exact LeO.none _)
      | (with_reducible refine LeO.ite ?_ ?_)
      | (with_reducible refine LeO.bind ?_ (fun _ => ?_))
      | exact ih0 _ _ _ _
      | exact LeO.none _
      | refine LeO.ite ?_ ?_
      | refine LeO.bind ?_ (fun _ => ?_)
theorem slices_Index_int_int.mono : ∀ a0 a1 k, LeO (slices_Index_int_int.f k a0 a1) (slices_Index_int_int.f (k + 1) a0 a1) := by
  intro a0 a1 k
  have ih0 := slices_Index_int_int.mono_l k
  unfold slices_Index_int_int.f
  repeat' first
      | (with_reducible exact ih0 _ _ _ _)
      | (with_reducible exact LeO.refl _)
      | (with_reducible exact LeO.none _)
      | (with_reducible refine LeO.ite ?_ ?_)
      | (with_reducible refine LeO.bind ?_ (fun _ => ?_))
      | exact ih0 _ _ _ _
      | exact LeO.none _
      | refine LeO.ite ?_ ?_
      | refine LeO.bind ?_ (fun _ => ?_)
set_option maxHeartbeats 8000000 in
set_option maxRecDepth 100000 in
theorem slices_Index_int_int.calls (k : Nat) (A0 : Option Addr) (c0 : Nat) (l0 : List Int) (a1 : Int) (r : Int) (w : World) (hr0 : Kd.C (Kd.int .i64) w A0 l0.length l0) (hc0 : l0.length ≤ c0) (h : slices_Index_int_int.f k l0 a1 = some r) :
    Calls Try.prog 20 #[.slice A0 l0.length c0, .int .i64 a1] w fun e w' => e = .returned (.int .i64 r) ∧ Drawn0 w w' := by
  have HR0 := Aside0.mk hr0
  have HC0 := Aside0.mk hc0
  clear hr0 hc0
  have H : (slices_Index_int_int.l0 k l0 a1 (l0.length : Int) 0) = some r := h
  clear h
  have H' := Aside0.mk H
  clear H
  go_enter Try.func20, Try.ntmps20
  go_wp2
  go_loopg [8] k (fun kq v8 w' => ∃ (x8_1 : Int), v8 = .int .i64 x8_1 ∧ Aside0 (slices_Index_int_int.l0 kq l0 a1 (l0.length : Int) x8_1 = some r) ∧ Aside0 (kq ≤ k) ∧ Drawn0 w w')
  case atStart => exact ⟨(0), (by first | rfl | (simp; done) | (simp [*]; done)), H', ⟨Nat.le_refl _⟩, by repeat (first | exact Drawn0.refl _ | apply Drawn0.step)⟩
  case round =>
    clear H'
    try clear c2
    try clear p2
    obtain ⟨x8_1, rfl, HA, HK1, ⟨m1, rfl⟩⟩ := hrel
    cases gk with
    | zero => exact absurd HA.out (by simp [slices_Index_int_int.l0])
    | succ k1 =>
      have H := HA.out
      clear HA
      simp only [slices_Index_int_int.l0] at H
      by_cases c3 : x8_1 < (l0.length : Int)
      · rw [if_pos c3] at H
        have c3b0 : decide (x8_1 < (l0.length : Int)) = true := decide_eq_true c3
        clear c3
        by_cases c4 : 0 ≤ x8_1
        · rw [if_pos c4] at H
          have c4b0 : decide (0 ≤ x8_1) = true := decide_eq_true c4
          clear c4
          by_cases c5 : x8_1 < (l0.length : Int)
          · rw [if_pos c5] at H
            have c5b0 : decide (x8_1 < (l0.length : Int)) = true := decide_eq_true c5
            clear c5
            by_cases c6 : a1 = (rd l0 x8_1)
            · rw [if_pos c6] at H
              have c6b0 : (a1 == (rd l0 x8_1)) = true := beq_iff_eq.mpr c6
              have c6b1 : (a1 != (rd l0 x8_1)) = false := bne_eq_false_iff_eq.mpr c6
              clear c6
              obtain rfl := Option.some.inj H
              have p222 : 0 ≤ (x8_1 : Int) := of_decide_eq_true (by first | (with_reducible assumption) | assumption)
              have q222 : x8_1 < (l0.length : Int) := of_decide_eq_true (by first | (with_reducible assumption) | assumption)
              obtain ⟨ad222, e222, hx222_0⟩ := Kd.at_int HR0.out x8_1 p222 q222
              cases e222
              replace p222 := eq_true p222
              replace q222 := eq_true q222
              go_wp2
              go_ret
              exact ⟨by first | rfl | (simp; done) | (simp [*]; done), by repeat (first | exact Drawn0.refl _ | apply Drawn0.step)⟩
            · rw [if_neg c6] at H
              have c6b0 : (a1 == (rd l0 x8_1)) = false := beq_eq_false_iff_ne.mpr c6
              have c6b1 : (a1 != (rd l0 x8_1)) = true := bne_iff_ne.mpr c6
              have H' := Aside0.mk H
              clear H
              have p222 : 0 ≤ (x8_1 : Int) := of_decide_eq_true (by first | (with_reducible assumption) | assumption)
              have q222 : x8_1 < (l0.length : Int) := of_decide_eq_true (by first | (with_reducible assumption) | assumption)
              obtain ⟨ad222, e222, hx222_0⟩ := Kd.at_int HR0.out x8_1 p222 q222
              cases e222
              replace p222 := eq_true p222
              replace q222 := eq_true q222
              go_wp2
              go_roundg k1
              case measure => have := HK1.out; omega
              case rel => exact ⟨(wrap64 (x8_1 + 1)), (by first | rfl | (simp; done) | (simp [*]; done)), H', ⟨by have := HK1.out; omega⟩, by repeat (first | exact Drawn0.refl _ | apply Drawn0.step)⟩
          · rw [if_neg c5] at H
            exact absurd H (by simp)
        · rw [if_neg c4] at H
          exact absurd H (by simp)
      · rw [if_neg c3] at H
        have c3b0 : decide (x8_1 < (l0.length : Int)) = false := decide_eq_false c3
        clear c3
        obtain rfl := Option.some.inj H
        go_wp2
        go_ret
        exact ⟨by first | rfl | (simp; done) | (simp [*]; done), by repeat (first | exact Drawn0.refl _ | apply Drawn0.step)⟩

/-! ### slices_Contains_int_int: function 13 -/
def slices_Contains_int_int.f (k : Nat) (l0 : List Int) (a1 : Int) : Option (Bool) := (slices_Index_int_int.f k l0 a1).bind fun t223 => (some (decide (t223 ≥ 0)))
theorem slices_Contains_int_int.mono : ∀ a0 a1 k, LeO (slices_Contains_int_int.f k a0 a1) (slices_Contains_int_int.f (k + 1) a0 a1) := by
  intro a0 a1 k
  unfold slices_Contains_int_int.f
  repeat' first
      | (with_reducible exact slices_Index_int_int.mono _ _ _)
      | (with_reducible exact LeO.refl _)
      | (with_reducible exact LeO.none _)
      | (with_reducible refine LeO.ite ?_ ?_)
      | (with_reducible refine LeO.bind ?_ (fun _ => ?_))
      | exact slices_Index_int_int.mono _ _ _
      | exact LeO.none _
      | refine LeO.ite ?_ ?_
      | refine LeO.bind ?_ (fun _ => ?_)
set_option maxHeartbeats 8000000 in
set_option maxRecDepth 100000 in
theorem slices_Contains_int_int.calls (k : Nat) (A0 : Option Addr) (c0 : Nat) (l0 : List Int) (a1 : Int) (r : Bool) (w : World) (hr0 : Kd.C (Kd.int .i64) w A0 l0.length l0) (hc0 : l0.length ≤ c0) (h : slices_Contains_int_int.f k l0 a1 = some r) :
    Calls Try.prog 13 #[.slice A0 l0.length c0, .int .i64 a1] w fun e w' => e = .returned (.bool r) ∧ Drawn0 w w' := by
  have HR0 := Aside0.mk hr0
  have HC0 := Aside0.mk hc0
  clear hr0 hc0
  have H : ((slices_Index_int_int.f k l0 a1).bind fun t223 => (some (decide (t223 ≥ 0)))) = some r := h
  clear h
  replace H := Option.bind_eq_some_iff.mp H
  obtain ⟨t223, A30, H⟩ := H
  replace H : (some (decide (t223 ≥ 0))) = some r := H
  have A3 := Aside0.mk A30
  clear A30
  obtain rfl := Option.some.inj H
  go_enter Try.func13, Try.ntmps13
  go_wp2_with (first | ((with_reducible refine gate_callee (f := 20) rfl ?_); refine goesL_ (some 7) rfl rfl Try.func20 (by kernel_rfl) rfl #[.slice A0 l0.length c0, .int .i64 a1] rfl (by (try simp only [List.map_toArray, List.map_cons, List.map_nil]); first | done | rfl | (simp only [List.length_drop, List.length_take]; rfl)) ?_; (with_reducible refine (slices_Index_int_int.calls k _ _ l0 a1 t223 _ ?side1 ?side2 A3.out).mono ?_); (case side1 => repeat (first | exact HR0.out | (with_reducible refine Kd.C_alloc ?_ _) | (with_reducible refine Kd.C_drewN ?_ _) | (with_reducible refine Kd.C_drew ?_))); (case side2 => exact HC0.out); rintro e w' ⟨rfl, ⟨nd, rfl⟩⟩; refine ⟨_, rfl, ?_⟩))
  go_ret
  exact ⟨by first | rfl | (simp; done) | (simp [*]; done), by repeat (first | exact Drawn0.refl _ | apply Drawn0.step)⟩

-- NOT PRINTED: function 21 (slices_IndexFunc_int_int)

-- NOT PRINTED: function 14 (slices_ContainsFunc_int_int)

/-! ### best_May: function 9 -/
-- given by hand: best_May.f, best_May.calls

/-! ### vespersref21_pair: function 17 -/
def vespersref21_pair.l0 : Nat → List (S39) → Int → Int → Int → Int → Option (Bool)
  | 0, _, _, _, _, _ => none
  | k + 1, x0, x1, x2, x9, x10 => if x10 < x9 then (if 0 ≤ x10 then (if x10 < (x0.length : Int) then (if ((rd_T39 x0 x10).f0) = x1 then (if ((rd_T39 x0 x10).f1) = x2 then (some true) else (if ((rd_T39 x0 x10).f0) = x2 then (if ((rd_T39 x0 x10).f1) = x1 then (some true) else (vespersref21_pair.l0 k x0 x1 x2 x9 (wrap64 (x10 + 1)))) else (vespersref21_pair.l0 k x0 x1 x2 x9 (wrap64 (x10 + 1))))) else (if ((rd_T39 x0 x10).f0) = x2 then (if ((rd_T39 x0 x10).f1) = x1 then (some true) else (vespersref21_pair.l0 k x0 x1 x2 x9 (wrap64 (x10 + 1)))) else (vespersref21_pair.l0 k x0 x1 x2 x9 (wrap64 (x10 + 1))))) else (none)) else (none)) else (some false)
def vespersref21_pair.f (k : Nat) (l0 : List (S39)) (a1 : Int) (a2 : Int) : Option (Bool) := vespersref21_pair.l0 k l0 a1 a2 (l0.length : Int) 0
theorem vespersref21_pair.mono_l : ∀ k, (∀ y0 y1 y2 y3 y4, LeO (vespersref21_pair.l0 k y0 y1 y2 y3 y4) (vespersref21_pair.l0 (k + 1) y0 y1 y2 y3 y4))
  | 0 => fun _ _ _ _ _ r h => by simp [vespersref21_pair.l0] at h
  | k + 1 => by
    have ih0 := vespersref21_pair.mono_l k
    · intro y0 y1 y2 y3 y4
      unfold vespersref21_pair.l0
      repeat' first
      | (with_reducible exact ih0 _ _ _ _ _)
      | (with_reducible exact LeO.refl _)
      | (with_reducible exact LeO.none _)
      | (with_reducible refine LeO.ite ?_ ?_)
      | (with_reducible refine LeO.bind ?_ (fun _ => ?_))
      | exact ih0 _ _ _ _ _
      | exact LeO.none _
      | refine LeO.ite ?_ ?_
      | refine LeO.bind ?_ (fun _ => ?_)
theorem vespersref21_pair.mono : ∀ a0 a1 a2 k, LeO (vespersref21_pair.f k a0 a1 a2) (vespersref21_pair.f (k + 1) a0 a1 a2) := by
  intro a0 a1 a2 k
  have ih0 := vespersref21_pair.mono_l k
  unfold vespersref21_pair.f
  repeat' first
      | (with_reducible exact ih0 _ _ _ _ _)
      | (with_reducible exact LeO.refl _)
      | (with_reducible exact LeO.none _)
      | (with_reducible refine LeO.ite ?_ ?_)
      | (with_reducible refine LeO.bind ?_ (fun _ => ?_))
      | exact ih0 _ _ _ _ _
      | exact LeO.none _
      | refine LeO.ite ?_ ?_
      | refine LeO.bind ?_ (fun _ => ?_)
set_option maxHeartbeats 8000000 in
set_option maxRecDepth 100000 in
theorem vespersref21_pair.calls (k : Nat) (A0 : Option Addr) (c0 : Nat) (l0 : List (S39)) (a1 : Int) (a2 : Int) (r : Bool) (w : World) (hr0 : Kd.C k39 w A0 l0.length l0) (hc0 : l0.length ≤ c0) (h : vespersref21_pair.f k l0 a1 a2 = some r) :
    Calls Try.prog 17 #[.slice A0 l0.length c0, .int .u32 a1, .int .u32 a2] w fun e w' => e = .returned (.bool r) ∧ Drawn0 w w' := by
  have HR0 := Aside0.mk hr0
  have HC0 := Aside0.mk hc0
  clear hr0 hc0
  have H : (vespersref21_pair.l0 k l0 a1 a2 (l0.length : Int) 0) = some r := h
  clear h
  have H' := Aside0.mk H
  clear H
  go_enter Try.func17, Try.ntmps17
  go_wp2
  go_loopg [10] k (fun kq v10 w' => ∃ (x10_1 : Int), v10 = .int .i64 x10_1 ∧ Aside0 (vespersref21_pair.l0 kq l0 a1 a2 (l0.length : Int) x10_1 = some r) ∧ Aside0 (kq ≤ k) ∧ Drawn0 w w')
  case atStart => exact ⟨(0), (by first | rfl | (simp; done) | (simp [*]; done)), H', ⟨Nat.le_refl _⟩, by repeat (first | exact Drawn0.refl _ | apply Drawn0.step)⟩
  case round =>
    clear H'
    try clear c1
    try clear p2
    obtain ⟨x10_1, rfl, HA, HK1, ⟨m1, rfl⟩⟩ := hrel
    cases gk with
    | zero => exact absurd HA.out (by simp [vespersref21_pair.l0])
    | succ k1 =>
      have H := HA.out
      clear HA
      simp only [vespersref21_pair.l0] at H
      by_cases c4 : x10_1 < (l0.length : Int)
      · rw [if_pos c4] at H
        have c4b0 : decide (x10_1 < (l0.length : Int)) = true := decide_eq_true c4
        clear c4
        by_cases c5 : 0 ≤ x10_1
        · rw [if_pos c5] at H
          have c5b0 : decide (0 ≤ x10_1) = true := decide_eq_true c5
          clear c5
          by_cases c6 : x10_1 < (l0.length : Int)
          · rw [if_pos c6] at H
            have c6b0 : decide (x10_1 < (l0.length : Int)) = true := decide_eq_true c6
            clear c6
            by_cases c7 : ((rd_T39 l0 x10_1).f0) = a1
            · rw [if_pos c7] at H
              have c7b0 : (((rd_T39 l0 x10_1).f0) == a1) = true := beq_iff_eq.mpr c7
              have c7b1 : (((rd_T39 l0 x10_1).f0) != a1) = false := bne_eq_false_iff_eq.mpr c7
              clear c7
              by_cases c8 : ((rd_T39 l0 x10_1).f1) = a2
              · rw [if_pos c8] at H
                have c8b0 : (((rd_T39 l0 x10_1).f1) == a2) = true := beq_iff_eq.mpr c8
                have c8b1 : (((rd_T39 l0 x10_1).f1) != a2) = false := bne_eq_false_iff_eq.mpr c8
                clear c8
                obtain rfl := Option.some.inj H
                have p224 : 0 ≤ (x10_1 : Int) := of_decide_eq_true (by first | (with_reducible assumption) | assumption)
                have q224 : x10_1 < (l0.length : Int) := of_decide_eq_true (by first | (with_reducible assumption) | assumption)
                obtain ⟨ad224, e224, hx224_0, hx224_1⟩ := at_T39 HR0.out x10_1 p224 q224
                cases e224
                replace p224 := eq_true p224
                replace q224 := eq_true q224
                have p225 : 0 ≤ (x10_1 : Int) := of_decide_eq_true (by first | (with_reducible assumption) | assumption)
                have q225 : x10_1 < (l0.length : Int) := of_decide_eq_true (by first | (with_reducible assumption) | assumption)
                obtain ⟨ad225, e225, hx225_0, hx225_1⟩ := at_T39 HR0.out x10_1 p225 q225
                obtain rfl : ad224 = ad225 := (by injection e225)
                replace p225 := eq_true p225
                replace q225 := eq_true q225
                go_wp2
                go_ret
                exact ⟨by first | rfl | (simp; done) | (simp [*]; done), by repeat (first | exact Drawn0.refl _ | apply Drawn0.step)⟩
              · rw [if_neg c8] at H
                have c8b0 : (((rd_T39 l0 x10_1).f1) == a2) = false := beq_eq_false_iff_ne.mpr c8
                have c8b1 : (((rd_T39 l0 x10_1).f1) != a2) = true := bne_iff_ne.mpr c8
                by_cases c9 : ((rd_T39 l0 x10_1).f0) = a2
                · rw [if_pos c9] at H
                  have c9b0 : (((rd_T39 l0 x10_1).f0) == a2) = true := beq_iff_eq.mpr c9
                  have c9b1 : (((rd_T39 l0 x10_1).f0) != a2) = false := bne_eq_false_iff_eq.mpr c9
                  clear c9
                  by_cases c10 : ((rd_T39 l0 x10_1).f1) = a1
                  · rw [if_pos c10] at H
                    have c10b0 : (((rd_T39 l0 x10_1).f1) == a1) = true := beq_iff_eq.mpr c10
                    have c10b1 : (((rd_T39 l0 x10_1).f1) != a1) = false := bne_eq_false_iff_eq.mpr c10
                    clear c10
                    obtain rfl := Option.some.inj H
                    have p224 : 0 ≤ (x10_1 : Int) := of_decide_eq_true (by first | (with_reducible assumption) | assumption)
                    have q224 : x10_1 < (l0.length : Int) := of_decide_eq_true (by first | (with_reducible assumption) | assumption)
                    obtain ⟨ad224, e224, hx224_0, hx224_1⟩ := at_T39 HR0.out x10_1 p224 q224
                    cases e224
                    replace p224 := eq_true p224
                    replace q224 := eq_true q224
                    have p225 : 0 ≤ (x10_1 : Int) := of_decide_eq_true (by first | (with_reducible assumption) | assumption)
                    have q225 : x10_1 < (l0.length : Int) := of_decide_eq_true (by first | (with_reducible assumption) | assumption)
                    obtain ⟨ad225, e225, hx225_0, hx225_1⟩ := at_T39 HR0.out x10_1 p225 q225
                    obtain rfl : ad224 = ad225 := (by injection e225)
                    replace p225 := eq_true p225
                    replace q225 := eq_true q225
                    have p226 : 0 ≤ (x10_1 : Int) := of_decide_eq_true (by first | (with_reducible assumption) | assumption)
                    have q226 : x10_1 < (l0.length : Int) := of_decide_eq_true (by first | (with_reducible assumption) | assumption)
                    obtain ⟨ad226, e226, hx226_0, hx226_1⟩ := at_T39 HR0.out x10_1 p226 q226
                    obtain rfl : ad224 = ad226 := (by injection e226)
                    replace p226 := eq_true p226
                    replace q226 := eq_true q226
                    have p227 : 0 ≤ (x10_1 : Int) := of_decide_eq_true (by first | (with_reducible assumption) | assumption)
                    have q227 : x10_1 < (l0.length : Int) := of_decide_eq_true (by first | (with_reducible assumption) | assumption)
                    obtain ⟨ad227, e227, hx227_0, hx227_1⟩ := at_T39 HR0.out x10_1 p227 q227
                    obtain rfl : ad224 = ad227 := (by injection e227)
                    replace p227 := eq_true p227
                    replace q227 := eq_true q227
                    go_wp2
                    go_ret
                    exact ⟨by first | rfl | (simp; done) | (simp [*]; done), by repeat (first | exact Drawn0.refl _ | apply Drawn0.step)⟩
                  · rw [if_neg c10] at H
                    have c10b0 : (((rd_T39 l0 x10_1).f1) == a1) = false := beq_eq_false_iff_ne.mpr c10
                    have c10b1 : (((rd_T39 l0 x10_1).f1) != a1) = true := bne_iff_ne.mpr c10
                    have H' := Aside0.mk H
                    clear H
                    have p224 : 0 ≤ (x10_1 : Int) := of_decide_eq_true (by first | (with_reducible assumption) | assumption)
                    have q224 : x10_1 < (l0.length : Int) := of_decide_eq_true (by first | (with_reducible assumption) | assumption)
                    obtain ⟨ad224, e224, hx224_0, hx224_1⟩ := at_T39 HR0.out x10_1 p224 q224
                    cases e224
                    replace p224 := eq_true p224
                    replace q224 := eq_true q224
                    have p225 : 0 ≤ (x10_1 : Int) := of_decide_eq_true (by first | (with_reducible assumption) | assumption)
                    have q225 : x10_1 < (l0.length : Int) := of_decide_eq_true (by first | (with_reducible assumption) | assumption)
                    obtain ⟨ad225, e225, hx225_0, hx225_1⟩ := at_T39 HR0.out x10_1 p225 q225
                    obtain rfl : ad224 = ad225 := (by injection e225)
                    replace p225 := eq_true p225
                    replace q225 := eq_true q225
                    have p226 : 0 ≤ (x10_1 : Int) := of_decide_eq_true (by first | (with_reducible assumption) | assumption)
                    have q226 : x10_1 < (l0.length : Int) := of_decide_eq_true (by first | (with_reducible assumption) | assumption)
                    obtain ⟨ad226, e226, hx226_0, hx226_1⟩ := at_T39 HR0.out x10_1 p226 q226
                    obtain rfl : ad224 = ad226 := (by injection e226)
                    replace p226 := eq_true p226
                    replace q226 := eq_true q226
                    have p227 : 0 ≤ (x10_1 : Int) := of_decide_eq_true (by first | (with_reducible assumption) | assumption)
                    have q227 : x10_1 < (l0.length : Int) := of_decide_eq_true (by first | (with_reducible assumption) | assumption)
                    obtain ⟨ad227, e227, hx227_0, hx227_1⟩ := at_T39 HR0.out x10_1 p227 q227
                    obtain rfl : ad224 = ad227 := (by injection e227)
                    replace p227 := eq_true p227
                    replace q227 := eq_true q227
                    go_wp2
                    go_roundg k1
                    case measure => have := HK1.out; omega
                    case rel => exact ⟨(wrap64 (x10_1 + 1)), (by first | rfl | (simp; done) | (simp [*]; done)), H', ⟨by have := HK1.out; omega⟩, by repeat (first | exact Drawn0.refl _ | apply Drawn0.step)⟩
                · rw [if_neg c9] at H
                  have c9b0 : (((rd_T39 l0 x10_1).f0) == a2) = false := beq_eq_false_iff_ne.mpr c9
                  have c9b1 : (((rd_T39 l0 x10_1).f0) != a2) = true := bne_iff_ne.mpr c9
                  have H' := Aside0.mk H
                  clear H
                  have p224 : 0 ≤ (x10_1 : Int) := of_decide_eq_true (by first | (with_reducible assumption) | assumption)
                  have q224 : x10_1 < (l0.length : Int) := of_decide_eq_true (by first | (with_reducible assumption) | assumption)
                  obtain ⟨ad224, e224, hx224_0, hx224_1⟩ := at_T39 HR0.out x10_1 p224 q224
                  cases e224
                  replace p224 := eq_true p224
                  replace q224 := eq_true q224
                  have p225 : 0 ≤ (x10_1 : Int) := of_decide_eq_true (by first | (with_reducible assumption) | assumption)
                  have q225 : x10_1 < (l0.length : Int) := of_decide_eq_true (by first | (with_reducible assumption) | assumption)
                  obtain ⟨ad225, e225, hx225_0, hx225_1⟩ := at_T39 HR0.out x10_1 p225 q225
                  obtain rfl : ad224 = ad225 := (by injection e225)
                  replace p225 := eq_true p225
                  replace q225 := eq_true q225
                  have p226 : 0 ≤ (x10_1 : Int) := of_decide_eq_true (by first | (with_reducible assumption) | assumption)
                  have q226 : x10_1 < (l0.length : Int) := of_decide_eq_true (by first | (with_reducible assumption) | assumption)
                  obtain ⟨ad226, e226, hx226_0, hx226_1⟩ := at_T39 HR0.out x10_1 p226 q226
                  obtain rfl : ad224 = ad226 := (by injection e226)
                  replace p226 := eq_true p226
                  replace q226 := eq_true q226
                  go_wp2
                  go_roundg k1
                  case measure => have := HK1.out; omega
                  case rel => exact ⟨(wrap64 (x10_1 + 1)), (by first | rfl | (simp; done) | (simp [*]; done)), H', ⟨by have := HK1.out; omega⟩, by repeat (first | exact Drawn0.refl _ | apply Drawn0.step)⟩
            · rw [if_neg c7] at H
              have c7b0 : (((rd_T39 l0 x10_1).f0) == a1) = false := beq_eq_false_iff_ne.mpr c7
              have c7b1 : (((rd_T39 l0 x10_1).f0) != a1) = true := bne_iff_ne.mpr c7
              by_cases c11 : ((rd_T39 l0 x10_1).f0) = a2
              · rw [if_pos c11] at H
                have c11b0 : (((rd_T39 l0 x10_1).f0) == a2) = true := beq_iff_eq.mpr c11
                have c11b1 : (((rd_T39 l0 x10_1).f0) != a2) = false := bne_eq_false_iff_eq.mpr c11
                clear c11
                by_cases c12 : ((rd_T39 l0 x10_1).f1) = a1
                · rw [if_pos c12] at H
                  have c12b0 : (((rd_T39 l0 x10_1).f1) == a1) = true := beq_iff_eq.mpr c12
                  have c12b1 : (((rd_T39 l0 x10_1).f1) != a1) = false := bne_eq_false_iff_eq.mpr c12
                  clear c12
                  obtain rfl := Option.some.inj H
                  have p224 : 0 ≤ (x10_1 : Int) := of_decide_eq_true (by first | (with_reducible assumption) | assumption)
                  have q224 : x10_1 < (l0.length : Int) := of_decide_eq_true (by first | (with_reducible assumption) | assumption)
                  obtain ⟨ad224, e224, hx224_0, hx224_1⟩ := at_T39 HR0.out x10_1 p224 q224
                  cases e224
                  replace p224 := eq_true p224
                  replace q224 := eq_true q224
                  have p228 : 0 ≤ (x10_1 : Int) := of_decide_eq_true (by first | (with_reducible assumption) | assumption)
                  have q228 : x10_1 < (l0.length : Int) := of_decide_eq_true (by first | (with_reducible assumption) | assumption)
                  obtain ⟨ad228, e228, hx228_0, hx228_1⟩ := at_T39 HR0.out x10_1 p228 q228
                  obtain rfl : ad224 = ad228 := (by injection e228)
                  replace p228 := eq_true p228
                  replace q228 := eq_true q228
                  have p229 : 0 ≤ (x10_1 : Int) := of_decide_eq_true (by first | (with_reducible assumption) | assumption)
                  have q229 : x10_1 < (l0.length : Int) := of_decide_eq_true (by first | (with_reducible assumption) | assumption)
                  obtain ⟨ad229, e229, hx229_0, hx229_1⟩ := at_T39 HR0.out x10_1 p229 q229
                  obtain rfl : ad224 = ad229 := (by injection e229)
                  replace p229 := eq_true p229
                  replace q229 := eq_true q229
                  go_wp2
                  go_ret
                  exact ⟨by first | rfl | (simp; done) | (simp [*]; done), by repeat (first | exact Drawn0.refl _ | apply Drawn0.step)⟩
                · rw [if_neg c12] at H
                  have c12b0 : (((rd_T39 l0 x10_1).f1) == a1) = false := beq_eq_false_iff_ne.mpr c12
                  have c12b1 : (((rd_T39 l0 x10_1).f1) != a1) = true := bne_iff_ne.mpr c12
                  have H' := Aside0.mk H
                  clear H
                  have p224 : 0 ≤ (x10_1 : Int) := of_decide_eq_true (by first | (with_reducible assumption) | assumption)
                  have q224 : x10_1 < (l0.length : Int) := of_decide_eq_true (by first | (with_reducible assumption) | assumption)
                  obtain ⟨ad224, e224, hx224_0, hx224_1⟩ := at_T39 HR0.out x10_1 p224 q224
                  cases e224
                  replace p224 := eq_true p224
                  replace q224 := eq_true q224
                  have p228 : 0 ≤ (x10_1 : Int) := of_decide_eq_true (by first | (with_reducible assumption) | assumption)
                  have q228 : x10_1 < (l0.length : Int) := of_decide_eq_true (by first | (with_reducible assumption) | assumption)
                  obtain ⟨ad228, e228, hx228_0, hx228_1⟩ := at_T39 HR0.out x10_1 p228 q228
                  obtain rfl : ad224 = ad228 := (by injection e228)
                  replace p228 := eq_true p228
                  replace q228 := eq_true q228
                  have p229 : 0 ≤ (x10_1 : Int) := of_decide_eq_true (by first | (with_reducible assumption) | assumption)
                  have q229 : x10_1 < (l0.length : Int) := of_decide_eq_true (by first | (with_reducible assumption) | assumption)
                  obtain ⟨ad229, e229, hx229_0, hx229_1⟩ := at_T39 HR0.out x10_1 p229 q229
                  obtain rfl : ad224 = ad229 := (by injection e229)
                  replace p229 := eq_true p229
                  replace q229 := eq_true q229
                  go_wp2
                  go_roundg k1
                  case measure => have := HK1.out; omega
                  case rel => exact ⟨(wrap64 (x10_1 + 1)), (by first | rfl | (simp; done) | (simp [*]; done)), H', ⟨by have := HK1.out; omega⟩, by repeat (first | exact Drawn0.refl _ | apply Drawn0.step)⟩
              · rw [if_neg c11] at H
                have c11b0 : (((rd_T39 l0 x10_1).f0) == a2) = false := beq_eq_false_iff_ne.mpr c11
                have c11b1 : (((rd_T39 l0 x10_1).f0) != a2) = true := bne_iff_ne.mpr c11
                have H' := Aside0.mk H
                clear H
                have p224 : 0 ≤ (x10_1 : Int) := of_decide_eq_true (by first | (with_reducible assumption) | assumption)
                have q224 : x10_1 < (l0.length : Int) := of_decide_eq_true (by first | (with_reducible assumption) | assumption)
                obtain ⟨ad224, e224, hx224_0, hx224_1⟩ := at_T39 HR0.out x10_1 p224 q224
                cases e224
                replace p224 := eq_true p224
                replace q224 := eq_true q224
                have p228 : 0 ≤ (x10_1 : Int) := of_decide_eq_true (by first | (with_reducible assumption) | assumption)
                have q228 : x10_1 < (l0.length : Int) := of_decide_eq_true (by first | (with_reducible assumption) | assumption)
                obtain ⟨ad228, e228, hx228_0, hx228_1⟩ := at_T39 HR0.out x10_1 p228 q228
                obtain rfl : ad224 = ad228 := (by injection e228)
                replace p228 := eq_true p228
                replace q228 := eq_true q228
                go_wp2
                go_roundg k1
                case measure => have := HK1.out; omega
                case rel => exact ⟨(wrap64 (x10_1 + 1)), (by first | rfl | (simp; done) | (simp [*]; done)), H', ⟨by have := HK1.out; omega⟩, by repeat (first | exact Drawn0.refl _ | apply Drawn0.step)⟩
          · rw [if_neg c6] at H
            exact absurd H (by simp)
        · rw [if_neg c5] at H
          exact absurd H (by simp)
      · rw [if_neg c4] at H
        have c4b0 : decide (x10_1 < (l0.length : Int)) = false := decide_eq_false c4
        clear c4
        obtain rfl := Option.some.inj H
        go_wp2
        go_ret
        exact ⟨by first | rfl | (simp; done) | (simp [*]; done), by repeat (first | exact Drawn0.refl _ | apply Drawn0.step)⟩

end Go.Proofs.Ythpibikfecjoiaa.Own
