-- own text: made by a program of this session out of the plain functions' print
import Derived.Test.YthpibikfecjoiaaOwnx0
import Derived.Test.YthpibikfecjoiaaOwnx5
namespace Go.Proofs.Ythpibikfecjoiaa.Own
open Go.RowKit Go.Proofs.YthpibikfecjoiaaW.PrintWords Go.Proofs.YthpibikfecjoiaaW.PrintLast Go.Proofs.YthpibikfecjoiaaW.PrintMore
attribute [local go_sem] max2_int min2_int max_two min_two max_three min_three max_four min_four   -- for this text's walks alone
set_option linter.unusedVariables false
set_option linter.unusedSimpArgs false

/-! ### vespersref21_May: function 10 -/
mutual
def vespersref21_May.j0 : Nat → List (S33) → List Bool → List (S39) → List Int → Bool → Option (Bool)
  | 0, _, _, _, _, _ => none
  | k + 1, x0, x1, x3, x4, x21 => if x21 = true then (some false) else (vespersref21_May.l0 k x0 x1 x3 x4 (x4.length : Int) 0)
def vespersref21_May.l0 : Nat → List (S33) → List Bool → List (S39) → List Int → Int → Int → Option (Bool)
  | 0, _, _, _, _, _, _ => none
  | k + 1, x0, x1, x3, x4, x23, x24 => if x24 < x23 then (if 0 ≤ x24 then (if x24 < (x4.length : Int) then (if (rd x4 x24) < 0 then (vespersref21_May.j2 k x0 x1 x3 x4 x24 (rd x4 x24) x23 x24 true) else (if (rd x4 x24) ≥ (x0.length : Int) then (vespersref21_May.j2 k x0 x1 x3 x4 x24 (rd x4 x24) x23 x24 true) else (if (rd x4 x24) ≥ (x1.length : Int) then (vespersref21_May.j2 k x0 x1 x3 x4 x24 (rd x4 x24) x23 x24 true) else (if 0 ≤ (rd x4 x24) then (if (rd x4 x24) < (x1.length : Int) then (vespersref21_May.j2 k x0 x1 x3 x4 x24 (rd x4 x24) x23 x24 (!(rdOf false x1 (rd x4 x24)))) else (none)) else (none))))) else (none)) else (none)) else (some true)
def vespersref21_May.j2 : Nat → List (S33) → List Bool → List (S39) → List Int → Int → Int → Int → Int → Bool → Option (Bool)
  | 0, _, _, _, _, _, _, _, _, _ => none
  | k + 1, x0, x1, x3, x4, x11, x12, x23, x24, x51 => if x51 = true then (some false) else (vespersref21_May.l1 k x0 x1 x3 x4 x11 x12 0 x23 x24)
def vespersref21_May.l1 : Nat → List (S33) → List Bool → List (S39) → List Int → Int → Int → Int → Int → Int → Option (Bool)
  | 0, _, _, _, _, _, _, _, _, _ => none
  | k + 1, x0, x1, x3, x4, x11, x12, x13, x23, x24 => if x13 < x11 then (if 0 ≤ x13 then (if x13 < (x4.length : Int) then (if (rd x4 x13) = x12 then (some false) else (if 0 ≤ (rd x4 x13) then (if (rd x4 x13) < (x0.length : Int) then (if 0 ≤ x12 then (if x12 < (x0.length : Int) then ((vespersref21_pair.f k x3 ((rd_T33 x0 (rd x4 x13)).f0) ((rd_T33 x0 x12).f0)).bind fun t236 => (if t236 = true then (some false) else (vespersref21_May.l1 k x0 x1 x3 x4 x11 x12 (wrap64 (x13 + 1)) x23 x24))) else (none)) else (none)) else (none)) else (none))) else (none)) else (none)) else (vespersref21_May.l0 k x0 x1 x3 x4 x23 (wrap64 (x24 + 1)))
end
def vespersref21_May.f (k : Nat) (l0 : List (S33)) (l1 : List Bool) (a2 : Int) (l3 : List (S39)) (l4 : List Int) : Option (Bool) := if a2 ≥ 0 then (vespersref21_May.j0 k l0 l1 l3 l4 (decide ((l4.length : Int) > a2))) else (vespersref21_May.j0 k l0 l1 l3 l4 false)
theorem vespersref21_May.mono_l : ∀ k, (∀ y0 y1 y2 y3 y4, LeO (vespersref21_May.j0 k y0 y1 y2 y3 y4) (vespersref21_May.j0 (k + 1) y0 y1 y2 y3 y4)) ∧ (∀ y0 y1 y2 y3 y4 y5, LeO (vespersref21_May.l0 k y0 y1 y2 y3 y4 y5) (vespersref21_May.l0 (k + 1) y0 y1 y2 y3 y4 y5)) ∧ (∀ y0 y1 y2 y3 y4 y5 y6 y7 y8, LeO (vespersref21_May.j2 k y0 y1 y2 y3 y4 y5 y6 y7 y8) (vespersref21_May.j2 (k + 1) y0 y1 y2 y3 y4 y5 y6 y7 y8)) ∧ (∀ y0 y1 y2 y3 y4 y5 y6 y7 y8, LeO (vespersref21_May.l1 k y0 y1 y2 y3 y4 y5 y6 y7 y8) (vespersref21_May.l1 (k + 1) y0 y1 y2 y3 y4 y5 y6 y7 y8))
  | 0 => ⟨fun _ _ _ _ _ r h => by simp [vespersref21_May.j0] at h, fun _ _ _ _ _ _ r h => by simp [vespersref21_May.l0] at h, fun _ _ _ _ _ _ _ _ _ r h => by simp [vespersref21_May.j2] at h, fun _ _ _ _ _ _ _ _ _ r h => by simp [vespersref21_May.l1] at h⟩
  | k + 1 => by
    obtain ⟨ih0, ih1, ih2, ih3⟩ := vespersref21_May.mono_l k
    refine ⟨?_, ?_, ?_, ?_⟩
    · intro y0 y1 y2 y3 y4
      unfold vespersref21_May.j0
      repeat' first
      | (with_reducible exact ih0 _ _ _ _ _)
      | (with_reducible exact ih1 _ _ _ _ _ _)
      | (with_reducible exact ih2 _ _ _ _ _ _ _ _ _)
      | (with_reducible exact ih3 _ _ _ _ _ _ _ _ _)
      | (with_reducible exact vespersref21_pair.mono _ _ _ _)
      | (with_reducible exact LeO.refl _)
      | (with_reducible exact LeO.none _)
      | (with_reducible refine LeO.ite ?_ ?_)
      | (with_reducible refine LeO.bind ?_ (fun _ => ?_))
      | exact ih0 _ _ _ _ _
      | exact ih1 _ _ _ _ _ _
      | exact ih2 _ _ _ _ _ _ _ _ _
      | exact ih3 _ _ _ _ _ _ _ _ _
      | exact vespersref21_pair.mono _ _ _ _
      | exact LeO.none _
      | refine LeO.ite ?_ ?_
      | refine LeO.bind ?_ (fun _ => ?_)
    · intro y0 y1 y2 y3 y4 y5
      unfold vespersref21_May.l0
      repeat' first
      | (with_reducible exact ih0 _ _ _ _ _)
      | (with_reducible exact ih1 _ _ _ _ _ _)
      | (with_reducible exact ih2 _ _ _ _ _ _ _ _ _)
      | (with_reducible exact ih3 _ _ _ _ _ _ _ _ _)
      | (with_reducible exact vespersref21_pair.mono _ _ _ _)
      | (with_reducible exact LeO.refl _)
      | (with_reducible exact LeO.none _)
      | (with_reducible refine LeO.ite ?_ ?_)
      | (with_reducible refine LeO.bind ?_ (fun _ => ?_))
      | exact ih0 _ _ _ _ _
      | exact ih1 _ _ _ _ _ _
      | exact ih2 _ _ _ _ _ _ _ _ _
      | exact ih3 _ _ _ _ _ _ _ _ _
      | exact vespersref21_pair.mono _ _ _ _
      | exact LeO.none _
      | refine LeO.ite ?_ ?_
      | refine LeO.bind ?_ (fun _ => ?_)
    · intro y0 y1 y2 y3 y4 y5 y6 y7 y8
      unfold vespersref21_May.j2
      repeat' first
      | (with_reducible exact ih0 _ _ _ _ _)
      | (with_reducible exact ih1 _ _ _ _ _ _)
      | (with_reducible exact ih2 _ _ _ _ _ _ _ _ _)
      | (with_reducible exact ih3 _ _ _ _ _ _ _ _ _)
      | (with_reducible exact vespersref21_pair.mono _ _ _ _)
      | (with_reducible exact LeO.refl _)
      | (with_reducible exact LeO.none _)
      | (with_reducible refine LeO.ite ?_ ?_)
      | (with_reducible refine LeO.bind ?_ (fun _ => ?_))
      | exact ih0 _ _ _ _ _
      | exact ih1 _ _ _ _ _ _
      | exact ih2 _ _ _ _ _ _ _ _ _
      | exact ih3 _ _ _ _ _ _ _ _ _
      | exact vespersref21_pair.mono _ _ _ _
      | exact LeO.none _
      | refine LeO.ite ?_ ?_
      | refine LeO.bind ?_ (fun _ => ?_)
    · intro y0 y1 y2 y3 y4 y5 y6 y7 y8
      unfold vespersref21_May.l1
      repeat' first
      | (with_reducible exact ih0 _ _ _ _ _)
      | (with_reducible exact ih1 _ _ _ _ _ _)
      | (with_reducible exact ih2 _ _ _ _ _ _ _ _ _)
      | (with_reducible exact ih3 _ _ _ _ _ _ _ _ _)
      | (with_reducible exact vespersref21_pair.mono _ _ _ _)
      | (with_reducible exact LeO.refl _)
      | (with_reducible exact LeO.none _)
      | (with_reducible refine LeO.ite ?_ ?_)
      | (with_reducible refine LeO.bind ?_ (fun _ => ?_))
      | exact ih0 _ _ _ _ _
      | exact ih1 _ _ _ _ _ _
      | exact ih2 _ _ _ _ _ _ _ _ _
      | exact ih3 _ _ _ _ _ _ _ _ _
      | exact vespersref21_pair.mono _ _ _ _
      | exact LeO.none _
      | refine LeO.ite ?_ ?_
      | refine LeO.bind ?_ (fun _ => ?_)
theorem vespersref21_May.mono : ∀ a0 a1 a2 a3 a4 k, LeO (vespersref21_May.f k a0 a1 a2 a3 a4) (vespersref21_May.f (k + 1) a0 a1 a2 a3 a4) := by
  intro a0 a1 a2 a3 a4 k
  obtain ⟨ih0, ih1, ih2, ih3⟩ := vespersref21_May.mono_l k
  unfold vespersref21_May.f
  repeat' first
      | (with_reducible exact ih0 _ _ _ _ _)
      | (with_reducible exact ih1 _ _ _ _ _ _)
      | (with_reducible exact ih2 _ _ _ _ _ _ _ _ _)
      | (with_reducible exact ih3 _ _ _ _ _ _ _ _ _)
      | (with_reducible exact vespersref21_pair.mono _ _ _ _)
      | (with_reducible exact LeO.refl _)
      | (with_reducible exact LeO.none _)
      | (with_reducible refine LeO.ite ?_ ?_)
      | (with_reducible refine LeO.bind ?_ (fun _ => ?_))
      | exact ih0 _ _ _ _ _
      | exact ih1 _ _ _ _ _ _
      | exact ih2 _ _ _ _ _ _ _ _ _
      | exact ih3 _ _ _ _ _ _ _ _ _
      | exact vespersref21_pair.mono _ _ _ _
      | exact LeO.none _
      | refine LeO.ite ?_ ?_
      | refine LeO.bind ?_ (fun _ => ?_)
set_option maxHeartbeats 8000000 in
set_option maxRecDepth 100000 in
theorem vespersref21_May.calls (k : Nat) (A0 : Option Addr) (c0 : Nat) (l0 : List (S33)) (A1 : Option Addr) (c1 : Nat) (l1 : List Bool) (a2 : Int) (A3 : Option Addr) (c3 : Nat) (l3 : List (S39)) (A4 : Option Addr) (c4 : Nat) (l4 : List Int) (r : Bool) (w : World) (hr0 : Kd.C k33 w A0 l0.length l0) (hc0 : l0.length ≤ c0) (hr1 : Kd.C Kd.bool w A1 l1.length l1) (hc1 : l1.length ≤ c1) (hr3 : Kd.C k39 w A3 l3.length l3) (hc3 : l3.length ≤ c3) (hr4 : Kd.C (Kd.int .i64) w A4 l4.length l4) (hc4 : l4.length ≤ c4) (h : vespersref21_May.f k l0 l1 a2 l3 l4 = some r) :
    Calls Try.prog 10 #[.slice A0 l0.length c0, .slice A1 l1.length c1, .int .i64 a2, .slice A3 l3.length c3, .slice A4 l4.length c4] w fun e w' => e = .returned (.bool r) ∧ Drawn0 w w' := by
  have HR0 := Aside0.mk hr0
  have HC0 := Aside0.mk hc0
  clear hr0 hc0
  have HR1 := Aside0.mk hr1
  have HC1 := Aside0.mk hc1
  clear hr1 hc1
  have HR3 := Aside0.mk hr3
  have HC3 := Aside0.mk hc3
  clear hr3 hc3
  have HR4 := Aside0.mk hr4
  have HC4 := Aside0.mk hc4
  clear hr4 hc4
  have H : (if a2 ≥ 0 then (vespersref21_May.j0 k l0 l1 l3 l4 (decide ((l4.length : Int) > a2))) else (vespersref21_May.j0 k l0 l1 l3 l4 false)) = some r := h
  clear h
  have HC6 := Aside0.mk H
  clear H
  go_enter Try.func10, Try.ntmps10
  go_upto_region 1 with (fail)
  repeat (go_quiet (fail); go_upto_region 1 with (fail))
  go_cut [21] (fun v21 wc => ∃ (kq : Nat) (x21_5 : Bool), v21 = .bool x21_5 ∧ Aside0 (vespersref21_May.j0 kq l0 l1 l3 l4 x21_5 = some r) ∧ Aside0 (kq ≤ k) ∧ Drawn0 w wc)
  case first =>
    have H := HC6.out
    clear HC6
    by_cases c7 : a2 ≥ 0
    · rw [if_pos c7] at H
      have c7b0 : decide (0 ≤ a2) = true := decide_eq_true c7
      clear c7
      (first | rw [c7b0] | (simp only [i64_w, i32_w]; rw [c7b0]) | skip)
      have H' := Aside0.mk H
      clear H
      go_wp2
      repeat (go_quiet (fail); try go_wp2)
      go_meet
      case rel => exact ⟨_, (decide ((l4.length : Int) > a2)), (by first | rfl | (simp; done) | (simp [*]; done)), H', ⟨by first | omega | exact Nat.le_refl _⟩, by repeat (first | exact Drawn0.refl _ | apply Drawn0.step)⟩
    · rw [if_neg c7] at H
      have c7b0 : decide (0 ≤ a2) = false := decide_eq_false c7
      clear c7
      (first | rw [c7b0] | (simp only [i64_w, i32_w]; rw [c7b0]) | skip)
      have H' := Aside0.mk H
      clear H
      go_wp2
      repeat (go_quiet (fail); try go_wp2)
      go_meet
      case rel => exact ⟨_, (false), (by first | rfl | (simp; done) | (simp [*]; done)), H', ⟨by first | omega | exact Nat.le_refl _⟩, by repeat (first | exact Drawn0.refl _ | apply Drawn0.step)⟩
  case rest =>
    clear HC6
    try clear c1
    try clear p2
    try clear c3
    try clear c4
    try clear c7
    try clear c7b0
    obtain ⟨kq, x21_5, rfl, HA, HJ5, ⟨mc5, rfl⟩⟩ := hcut
    cases kq with
    | zero => exact absurd HA.out (by simp [vespersref21_May.j0])
    | succ kj5 =>
      have H := HA.out
      clear HA
      simp only [vespersref21_May.j0] at H
      by_cases c8 : x21_5 = true
      · subst c8
        have H1 : (some false) = some r := by rw [if_pos rfl] at H; exact H
        clear H
        have H := H1
        clear H1
        obtain rfl := Option.some.inj H
        go_wp2
        repeat (go_quiet (fail); try go_wp2)
        go_ret
        exact ⟨by first | rfl | (simp; done) | (simp [*]; done), by repeat (first | exact Drawn0.refl _ | apply Drawn0.step)⟩
      · replace c8 := Bool.eq_false_iff.mpr c8
        subst c8
        have H1 : (vespersref21_May.l0 kj5 l0 l1 l3 l4 (l4.length : Int) 0) = some r := by rw [if_neg (show ¬ (false = true) by decide)] at H; exact H
        clear H
        have H := H1
        clear H1
        have H' := Aside0.mk H
        clear H
        go_wp2
        repeat (go_quiet (fail); try go_wp2)
        go_loopg [24] kj5 (fun kq v24 w' => ∃ (x24_2 : Int), v24 = .int .i64 x24_2 ∧ Aside0 (vespersref21_May.l0 kq l0 l1 l3 l4 (l4.length : Int) x24_2 = some r) ∧ Aside0 (kq ≤ kj5) ∧ Drawn0 w w')
        case atStart => exact ⟨(0), (by first | rfl | (simp; done) | (simp [*]; done)), H', ⟨Nat.le_refl _⟩, by repeat (first | exact Drawn0.refl _ | apply Drawn0.step)⟩
        case round =>
          clear H'
          try clear c1
          try clear p2
          try clear c3
          try clear c4
          try clear c5
          try clear c7
          try clear c7b0
          try clear c8
          try clear p2
          obtain ⟨x24_2, rfl, HA, HK2, ⟨m2, rfl⟩⟩ := hrel
          cases gk with
          | zero => exact absurd HA.out (by simp [vespersref21_May.l0])
          | succ k2 =>
            have H := HA.out
            clear HA
            simp only [vespersref21_May.l0] at H
            by_cases c9 : x24_2 < (l4.length : Int)
            · rw [if_pos c9] at H
              have c9b0 : decide (x24_2 < (l4.length : Int)) = true := decide_eq_true c9
              clear c9
              by_cases c10 : 0 ≤ x24_2
              · rw [if_pos c10] at H
                have c10b0 : decide (0 ≤ x24_2) = true := decide_eq_true c10
                clear c10
                by_cases c11 : x24_2 < (l4.length : Int)
                · rw [if_pos c11] at H
                  have c11b0 : decide (x24_2 < (l4.length : Int)) = true := decide_eq_true c11
                  clear c11
                  have HC12 := Aside0.mk H
                  clear H
                  have p230 : 0 ≤ (x24_2 : Int) := of_decide_eq_true (by first | (with_reducible assumption) | assumption)
                  have q230 : x24_2 < (l4.length : Int) := of_decide_eq_true (by first | (with_reducible assumption) | assumption)
                  obtain ⟨ad230, e230, hx230_0⟩ := Kd.at_int HR4.out x24_2 p230 q230
                  cases e230
                  replace p230 := eq_true p230
                  replace q230 := eq_true q230
                  go_upto_region 7 with (fail)
                  repeat (go_quiet (fail); go_upto_region 7 with (fail))
                  go_cut [51] (fun v51 wc => ∃ (kq : Nat) (x51_11 : Bool), v51 = .bool x51_11 ∧ Aside0 (vespersref21_May.j2 kq l0 l1 l3 l4 x24_2 (rd l4 x24_2) (l4.length : Int) x24_2 x51_11 = some r) ∧ Aside0 (kq ≤ k2) ∧ Drawn0 w wc)
                  case first =>
                    have H := HC12.out
                    clear HC12
                    by_cases c13 : (rd l4 x24_2) < 0
                    · rw [if_pos c13] at H
                      have c13b0 : decide ((rd l4 x24_2) < 0) = true := decide_eq_true c13
                      clear c13
                      (first | rw [c13b0] | (simp only [i64_w, i32_w]; rw [c13b0]) | skip)
                      have H' := Aside0.mk H
                      clear H
                      go_wp2
                      repeat (go_quiet (fail); try go_wp2)
                      go_meet
                      case rel => exact ⟨_, (true), (by first | rfl | (simp; done) | (simp [*]; done)), H', ⟨by have := HJ5.out; have := HK2.out; first | omega | exact Nat.le_refl _⟩, by repeat (first | exact Drawn0.refl _ | apply Drawn0.step)⟩
                    · rw [if_neg c13] at H
                      have c13b0 : decide ((rd l4 x24_2) < 0) = false := decide_eq_false c13
                      clear c13
                      (first | rw [c13b0] | (simp only [i64_w, i32_w]; rw [c13b0]) | skip)
                      by_cases c14 : (rd l4 x24_2) ≥ (l0.length : Int)
                      · rw [if_pos c14] at H
                        have c14b0 : decide ((l0.length : Int) ≤ (rd l4 x24_2)) = true := decide_eq_true c14
                        clear c14
                        have H' := Aside0.mk H
                        clear H
                        go_wp2
                        repeat (go_quiet (fail); try go_wp2)
                        go_meet
                        case rel => exact ⟨_, (true), (by first | rfl | (simp; done) | (simp [*]; done)), H', ⟨by have := HJ5.out; have := HK2.out; first | omega | exact Nat.le_refl _⟩, by repeat (first | exact Drawn0.refl _ | apply Drawn0.step)⟩
                      · rw [if_neg c14] at H
                        have c14b0 : decide ((l0.length : Int) ≤ (rd l4 x24_2)) = false := decide_eq_false c14
                        clear c14
                        by_cases c15 : (rd l4 x24_2) ≥ (l1.length : Int)
                        · rw [if_pos c15] at H
                          have c15b0 : decide ((l1.length : Int) ≤ (rd l4 x24_2)) = true := decide_eq_true c15
                          clear c15
                          have H' := Aside0.mk H
                          clear H
                          go_wp2
                          repeat (go_quiet (fail); try go_wp2)
                          go_meet
                          case rel => exact ⟨_, (true), (by first | rfl | (simp; done) | (simp [*]; done)), H', ⟨by have := HJ5.out; have := HK2.out; first | omega | exact Nat.le_refl _⟩, by repeat (first | exact Drawn0.refl _ | apply Drawn0.step)⟩
                        · rw [if_neg c15] at H
                          have c15b0 : decide ((l1.length : Int) ≤ (rd l4 x24_2)) = false := decide_eq_false c15
                          clear c15
                          by_cases c16 : 0 ≤ (rd l4 x24_2)
                          · rw [if_pos c16] at H
                            have c16b0 : decide (0 ≤ (rd l4 x24_2)) = true := decide_eq_true c16
                            clear c16
                            by_cases c17 : (rd l4 x24_2) < (l1.length : Int)
                            · rw [if_pos c17] at H
                              have c17b0 : decide ((rd l4 x24_2) < (l1.length : Int)) = true := decide_eq_true c17
                              clear c17
                              have H' := Aside0.mk H
                              clear H
                              have p231 : 0 ≤ ((rd l4 x24_2) : Int) := of_decide_eq_true (by first | (with_reducible assumption) | assumption)
                              have q231 : (rd l4 x24_2) < (l1.length : Int) := of_decide_eq_true (by first | (with_reducible assumption) | assumption)
                              obtain ⟨ad231, e231, hx231_0⟩ := Kd.at_bool HR1.out (rd l4 x24_2) p231 q231
                              cases e231
                              replace p231 := eq_true p231
                              replace q231 := eq_true q231
                              go_wp2
                              repeat (go_quiet (fail); try go_wp2)
                              go_meet
                              case rel => exact ⟨_, (!(rdOf false l1 (rd l4 x24_2))), (by first | rfl | (simp; done) | (simp [*]; done)), H', ⟨by have := HJ5.out; have := HK2.out; first | omega | exact Nat.le_refl _⟩, by repeat (first | exact Drawn0.refl _ | apply Drawn0.step)⟩
                            · rw [if_neg c17] at H
                              exact absurd H (by simp)
                          · rw [if_neg c16] at H
                            exact absurd H (by simp)
                  case rest =>
                    clear HC12
                    try clear c1
                    try clear p2
                    try clear q2
                    try clear hx2
                    try clear c3
                    try clear c4
                    try clear c5
                    try clear c7
                    try clear c7b0
                    try clear c8
                    try clear c9
                    try clear c9b0
                    try clear c10
                    try clear c10b0
                    try clear c11
                    try clear c11b0
                    try clear c13
                    try clear c13b0
                    try clear c14
                    try clear c14b0
                    try clear c15
                    try clear c15b0
                    try clear c16
                    try clear c16b0
                    try clear c17
                    try clear c17b0
                    try clear hx230_0
                    try clear hx231_0
                    try clear p2
                    try clear p230
                    try clear p231
                    try clear q230
                    try clear q231
                    obtain ⟨kq, x51_11, rfl, HA, HJ11, ⟨mc11, rfl⟩⟩ := hcut
                    cases kq with
                    | zero => exact absurd HA.out (by simp [vespersref21_May.j2])
                    | succ kj11 =>
                      have H := HA.out
                      clear HA
                      simp only [vespersref21_May.j2] at H
                      by_cases c18 : x51_11 = true
                      · subst c18
                        have H1 : (some false) = some r := by rw [if_pos rfl] at H; exact H
                        clear H
                        have H := H1
                        clear H1
                        obtain rfl := Option.some.inj H
                        go_wp2
                        repeat (go_quiet (fail); try go_wp2)
                        go_ret
                        exact ⟨by first | rfl | (simp; done) | (simp [*]; done), by repeat (first | exact Drawn0.refl _ | apply Drawn0.step)⟩
                      · replace c18 := Bool.eq_false_iff.mpr c18
                        subst c18
                        have H1 : (vespersref21_May.l1 kj11 l0 l1 l3 l4 x24_2 (rd l4 x24_2) 0 (l4.length : Int) x24_2) = some r := by rw [if_neg (show ¬ (false = true) by decide)] at H; exact H
                        clear H
                        have H := H1
                        clear H1
                        have H' := Aside0.mk H
                        clear H
                        go_wp2
                        repeat (go_quiet (fail); try go_wp2)
                        go_loopg [13] kj11 (fun kq v13 w' => ∃ (x13_4 : Int), v13 = .int .i64 x13_4 ∧ Aside0 (vespersref21_May.l1 kq l0 l1 l3 l4 x24_2 (rd l4 x24_2) x13_4 (l4.length : Int) x24_2 = some r) ∧ Aside0 (kq ≤ kj11) ∧ Drawn0 w w')
                        case atStart => exact ⟨(0), (by first | rfl | (simp; done) | (simp [*]; done)), H', ⟨Nat.le_refl _⟩, by repeat (first | exact Drawn0.refl _ | apply Drawn0.step)⟩
                        case round =>
                          clear H'
                          try clear c1
                          try clear p2
                          try clear q2
                          try clear hx2
                          try clear c3
                          try clear c4
                          try clear c5
                          try clear c7
                          try clear c7b0
                          try clear c8
                          try clear c9
                          try clear c9b0
                          try clear c10
                          try clear c10b0
                          try clear c11
                          try clear c11b0
                          try clear c13
                          try clear c13b0
                          try clear c14
                          try clear c14b0
                          try clear c15
                          try clear c15b0
                          try clear c16
                          try clear c16b0
                          try clear c17
                          try clear c17b0
                          try clear c18
                          try clear hx230_0
                          try clear hx231_0
                          try clear p2
                          try clear p230
                          try clear p231
                          try clear q2
                          try clear q230
                          try clear q231
                          obtain ⟨x13_4, rfl, HA, HK4, ⟨m4, rfl⟩⟩ := hrel
                          cases gk with
                          | zero => exact absurd HA.out (by simp [vespersref21_May.l1])
                          | succ k4 =>
                            have H := HA.out
                            clear HA
                            simp only [vespersref21_May.l1] at H
                            by_cases c19 : x13_4 < x24_2
                            · rw [if_pos c19] at H
                              have c19b0 : decide (x13_4 < x24_2) = true := decide_eq_true c19
                              clear c19
                              by_cases c20 : 0 ≤ x13_4
                              · rw [if_pos c20] at H
                                have c20b0 : decide (0 ≤ x13_4) = true := decide_eq_true c20
                                clear c20
                                by_cases c21 : x13_4 < (l4.length : Int)
                                · rw [if_pos c21] at H
                                  have c21b0 : decide (x13_4 < (l4.length : Int)) = true := decide_eq_true c21
                                  clear c21
                                  by_cases c22 : (rd l4 x13_4) = (rd l4 x24_2)
                                  · rw [if_pos c22] at H
                                    have c22b0 : ((rd l4 x13_4) == (rd l4 x24_2)) = true := beq_iff_eq.mpr c22
                                    have c22b1 : ((rd l4 x13_4) != (rd l4 x24_2)) = false := bne_eq_false_iff_eq.mpr c22
                                    clear c22
                                    obtain rfl := Option.some.inj H
                                    have p232 : 0 ≤ (x13_4 : Int) := of_decide_eq_true (by first | (with_reducible assumption) | assumption)
                                    have q232 : x13_4 < (l4.length : Int) := of_decide_eq_true (by first | (with_reducible assumption) | assumption)
                                    obtain ⟨ad232, e232, hx232_0⟩ := Kd.at_int HR4.out x13_4 p232 q232
                                    obtain rfl : ad230 = ad232 := (by injection e232)
                                    replace p232 := eq_true p232
                                    replace q232 := eq_true q232
                                    go_wp2
                                    repeat (go_quiet (fail); try go_wp2)
                                    go_ret
                                    exact ⟨by first | rfl | (simp; done) | (simp [*]; done), by repeat (first | exact Drawn0.refl _ | apply Drawn0.step)⟩
                                  · rw [if_neg c22] at H
                                    have c22b0 : ((rd l4 x13_4) == (rd l4 x24_2)) = false := beq_eq_false_iff_ne.mpr c22
                                    have c22b1 : ((rd l4 x13_4) != (rd l4 x24_2)) = true := bne_iff_ne.mpr c22
                                    by_cases c23 : 0 ≤ (rd l4 x13_4)
                                    · rw [if_pos c23] at H
                                      have c23b0 : decide (0 ≤ (rd l4 x13_4)) = true := decide_eq_true c23
                                      clear c23
                                      by_cases c24 : (rd l4 x13_4) < (l0.length : Int)
                                      · rw [if_pos c24] at H
                                        have c24b0 : decide ((rd l4 x13_4) < (l0.length : Int)) = true := decide_eq_true c24
                                        clear c24
                                        by_cases c25 : 0 ≤ (rd l4 x24_2)
                                        · rw [if_pos c25] at H
                                          have c25b0 : decide (0 ≤ (rd l4 x24_2)) = true := decide_eq_true c25
                                          clear c25
                                          by_cases c26 : (rd l4 x24_2) < (l0.length : Int)
                                          · rw [if_pos c26] at H
                                            have c26b0 : decide ((rd l4 x24_2) < (l0.length : Int)) = true := decide_eq_true c26
                                            clear c26
                                            replace H := Option.bind_eq_some_iff.mp H
                                            obtain ⟨t236, A270, H⟩ := H
                                            replace H : (if t236 = true then (some false) else (vespersref21_May.l1 k4 l0 l1 l3 l4 x24_2 (rd l4 x24_2) (wrap64 (x13_4 + 1)) (l4.length : Int) x24_2)) = some r := H
                                            have A27 := Aside0.mk A270
                                            clear A270
                                            by_cases c28 : t236 = true
                                            · subst c28
                                              have H1 : (some false) = some r := by rw [if_pos rfl] at H; exact H
                                              clear H
                                              have H := H1
                                              clear H1
                                              obtain rfl := Option.some.inj H
                                              have p232 : 0 ≤ (x13_4 : Int) := of_decide_eq_true (by first | (with_reducible assumption) | assumption)
                                              have q232 : x13_4 < (l4.length : Int) := of_decide_eq_true (by first | (with_reducible assumption) | assumption)
                                              obtain ⟨ad232, e232, hx232_0⟩ := Kd.at_int HR4.out x13_4 p232 q232
                                              obtain rfl : ad230 = ad232 := (by injection e232)
                                              replace p232 := eq_true p232
                                              replace q232 := eq_true q232
                                              have p233 : 0 ≤ (x13_4 : Int) := of_decide_eq_true (by first | (with_reducible assumption) | assumption)
                                              have q233 : x13_4 < (l4.length : Int) := of_decide_eq_true (by first | (with_reducible assumption) | assumption)
                                              obtain ⟨ad233, e233, hx233_0⟩ := Kd.at_int HR4.out x13_4 p233 q233
                                              obtain rfl : ad230 = ad233 := (by injection e233)
                                              replace p233 := eq_true p233
                                              replace q233 := eq_true q233
                                              have p234 : 0 ≤ ((rd l4 x13_4) : Int) := of_decide_eq_true (by first | (with_reducible assumption) | assumption)
                                              have q234 : (rd l4 x13_4) < (l0.length : Int) := of_decide_eq_true (by first | (with_reducible assumption) | assumption)
                                              obtain ⟨ad234, e234, hx234_0, hx234_1⟩ := at_T33 HR0.out (rd l4 x13_4) p234 q234
                                              cases e234
                                              replace p234 := eq_true p234
                                              replace q234 := eq_true q234
                                              have p235 : 0 ≤ ((rd l4 x24_2) : Int) := of_decide_eq_true (by first | (with_reducible assumption) | assumption)
                                              have q235 : (rd l4 x24_2) < (l0.length : Int) := of_decide_eq_true (by first | (with_reducible assumption) | assumption)
                                              obtain ⟨ad235, e235, hx235_0, hx235_1⟩ := at_T33 HR0.out (rd l4 x24_2) p235 q235
                                              obtain rfl : ad234 = ad235 := (by injection e235)
                                              replace p235 := eq_true p235
                                              replace q235 := eq_true q235
                                              go_wp2_with (first | (go_at_call 17; (with_reducible refine (vespersref21_pair.calls k4 _ _ l3 ((rd_T33 l0 (rd l4 x13_4)).f0) ((rd_T33 l0 (rd l4 x24_2)).f0) true _ ?side1 ?side2 A27.out).mono ?_); (case side1 => repeat (first | exact HR3.out | (with_reducible refine Kd.C_alloc ?_ _) | (with_reducible refine Kd.C_drewN ?_ _) | (with_reducible refine Kd.C_drew ?_))); (case side2 => exact HC3.out); rintro e w' ⟨rfl, ⟨nd, rfl⟩⟩; (try first | exact ⟨rfl, _, World.drewN_drewN _ _ _⟩ | exact ⟨rfl, _, Eq.trans (World.drewN_drewN _ _ _) (congrArg (World.drewN _) (Nat.add_assoc _ _ _))⟩)))
                                              repeat (go_quiet (first | (go_at_call 17; (with_reducible refine (vespersref21_pair.calls k4 _ _ l3 ((rd_T33 l0 (rd l4 x13_4)).f0) ((rd_T33 l0 (rd l4 x24_2)).f0) true _ ?side1 ?side2 A27.out).mono ?_); (case side1 => repeat (first | exact HR3.out | (with_reducible refine Kd.C_alloc ?_ _) | (with_reducible refine Kd.C_drewN ?_ _) | (with_reducible refine Kd.C_drew ?_))); (case side2 => exact HC3.out); rintro e w' ⟨rfl, ⟨nd, rfl⟩⟩; (try first | exact ⟨rfl, _, World.drewN_drewN _ _ _⟩ | exact ⟨rfl, _, Eq.trans (World.drewN_drewN _ _ _) (congrArg (World.drewN _) (Nat.add_assoc _ _ _))⟩))); try go_wp2_with (first | (go_at_call 17; (with_reducible refine (vespersref21_pair.calls k4 _ _ l3 ((rd_T33 l0 (rd l4 x13_4)).f0) ((rd_T33 l0 (rd l4 x24_2)).f0) true _ ?side1 ?side2 A27.out).mono ?_); (case side1 => repeat (first | exact HR3.out | (with_reducible refine Kd.C_alloc ?_ _) | (with_reducible refine Kd.C_drewN ?_ _) | (with_reducible refine Kd.C_drew ?_))); (case side2 => exact HC3.out); rintro e w' ⟨rfl, ⟨nd, rfl⟩⟩; (try first | exact ⟨rfl, _, World.drewN_drewN _ _ _⟩ | exact ⟨rfl, _, Eq.trans (World.drewN_drewN _ _ _) (congrArg (World.drewN _) (Nat.add_assoc _ _ _))⟩))))
                                              go_ret
                                              exact ⟨by first | rfl | (simp; done) | (simp [*]; done), by repeat (first | exact Drawn0.refl _ | apply Drawn0.step)⟩
                                            · replace c28 := Bool.eq_false_iff.mpr c28
                                              subst c28
                                              have H1 : (vespersref21_May.l1 k4 l0 l1 l3 l4 x24_2 (rd l4 x24_2) (wrap64 (x13_4 + 1)) (l4.length : Int) x24_2) = some r := by rw [if_neg (show ¬ (false = true) by decide)] at H; exact H
                                              clear H
                                              have H := H1
                                              clear H1
                                              have H' := Aside0.mk H
                                              clear H
                                              have p232 : 0 ≤ (x13_4 : Int) := of_decide_eq_true (by first | (with_reducible assumption) | assumption)
                                              have q232 : x13_4 < (l4.length : Int) := of_decide_eq_true (by first | (with_reducible assumption) | assumption)
                                              obtain ⟨ad232, e232, hx232_0⟩ := Kd.at_int HR4.out x13_4 p232 q232
                                              obtain rfl : ad230 = ad232 := (by injection e232)
                                              replace p232 := eq_true p232
                                              replace q232 := eq_true q232
                                              have p233 : 0 ≤ (x13_4 : Int) := of_decide_eq_true (by first | (with_reducible assumption) | assumption)
                                              have q233 : x13_4 < (l4.length : Int) := of_decide_eq_true (by first | (with_reducible assumption) | assumption)
                                              obtain ⟨ad233, e233, hx233_0⟩ := Kd.at_int HR4.out x13_4 p233 q233
                                              obtain rfl : ad230 = ad233 := (by injection e233)
                                              replace p233 := eq_true p233
                                              replace q233 := eq_true q233
                                              have p234 : 0 ≤ ((rd l4 x13_4) : Int) := of_decide_eq_true (by first | (with_reducible assumption) | assumption)
                                              have q234 : (rd l4 x13_4) < (l0.length : Int) := of_decide_eq_true (by first | (with_reducible assumption) | assumption)
                                              obtain ⟨ad234, e234, hx234_0, hx234_1⟩ := at_T33 HR0.out (rd l4 x13_4) p234 q234
                                              cases e234
                                              replace p234 := eq_true p234
                                              replace q234 := eq_true q234
                                              have p235 : 0 ≤ ((rd l4 x24_2) : Int) := of_decide_eq_true (by first | (with_reducible assumption) | assumption)
                                              have q235 : (rd l4 x24_2) < (l0.length : Int) := of_decide_eq_true (by first | (with_reducible assumption) | assumption)
                                              obtain ⟨ad235, e235, hx235_0, hx235_1⟩ := at_T33 HR0.out (rd l4 x24_2) p235 q235
                                              obtain rfl : ad234 = ad235 := (by injection e235)
                                              replace p235 := eq_true p235
                                              replace q235 := eq_true q235
                                              go_wp2_with (first | (go_at_call 17; (with_reducible refine (vespersref21_pair.calls k4 _ _ l3 ((rd_T33 l0 (rd l4 x13_4)).f0) ((rd_T33 l0 (rd l4 x24_2)).f0) false _ ?side1 ?side2 A27.out).mono ?_); (case side1 => repeat (first | exact HR3.out | (with_reducible refine Kd.C_alloc ?_ _) | (with_reducible refine Kd.C_drewN ?_ _) | (with_reducible refine Kd.C_drew ?_))); (case side2 => exact HC3.out); rintro e w' ⟨rfl, ⟨nd, rfl⟩⟩; (try first | exact ⟨rfl, _, World.drewN_drewN _ _ _⟩ | exact ⟨rfl, _, Eq.trans (World.drewN_drewN _ _ _) (congrArg (World.drewN _) (Nat.add_assoc _ _ _))⟩)))
                                              repeat (go_quiet (first | (go_at_call 17; (with_reducible refine (vespersref21_pair.calls k4 _ _ l3 ((rd_T33 l0 (rd l4 x13_4)).f0) ((rd_T33 l0 (rd l4 x24_2)).f0) false _ ?side1 ?side2 A27.out).mono ?_); (case side1 => repeat (first | exact HR3.out | (with_reducible refine Kd.C_alloc ?_ _) | (with_reducible refine Kd.C_drewN ?_ _) | (with_reducible refine Kd.C_drew ?_))); (case side2 => exact HC3.out); rintro e w' ⟨rfl, ⟨nd, rfl⟩⟩; (try first | exact ⟨rfl, _, World.drewN_drewN _ _ _⟩ | exact ⟨rfl, _, Eq.trans (World.drewN_drewN _ _ _) (congrArg (World.drewN _) (Nat.add_assoc _ _ _))⟩))); try go_wp2_with (first | (go_at_call 17; (with_reducible refine (vespersref21_pair.calls k4 _ _ l3 ((rd_T33 l0 (rd l4 x13_4)).f0) ((rd_T33 l0 (rd l4 x24_2)).f0) false _ ?side1 ?side2 A27.out).mono ?_); (case side1 => repeat (first | exact HR3.out | (with_reducible refine Kd.C_alloc ?_ _) | (with_reducible refine Kd.C_drewN ?_ _) | (with_reducible refine Kd.C_drew ?_))); (case side2 => exact HC3.out); rintro e w' ⟨rfl, ⟨nd, rfl⟩⟩; (try first | exact ⟨rfl, _, World.drewN_drewN _ _ _⟩ | exact ⟨rfl, _, Eq.trans (World.drewN_drewN _ _ _) (congrArg (World.drewN _) (Nat.add_assoc _ _ _))⟩))))
                                              go_roundg k4
                                              case measure => have := HJ5.out; have := HK2.out; have := HJ11.out; have := HK4.out; omega
                                              case rel => exact ⟨(wrap64 (x13_4 + 1)), (by first | rfl | (simp; done) | (simp [*]; done)), H', ⟨by have := HJ5.out; have := HK2.out; have := HJ11.out; have := HK4.out; omega⟩, by repeat (first | exact Drawn0.refl _ | apply Drawn0.step)⟩
                                          · rw [if_neg c26] at H
                                            exact absurd H (by simp)
                                        · rw [if_neg c25] at H
                                          exact absurd H (by simp)
                                      · rw [if_neg c24] at H
                                        exact absurd H (by simp)
                                    · rw [if_neg c23] at H
                                      exact absurd H (by simp)
                                · rw [if_neg c21] at H
                                  exact absurd H (by simp)
                              · rw [if_neg c20] at H
                                exact absurd H (by simp)
                            · rw [if_neg c19] at H
                              have c19b0 : decide (x13_4 < x24_2) = false := decide_eq_false c19
                              clear c19
                              have H' := Aside0.mk H
                              clear H
                              go_wp2
                              repeat (go_quiet (fail); try go_wp2)
                              go_roundg k4
                              case measure => have := HJ5.out; have := HK2.out; have := HJ11.out; have := HK4.out; omega
                              case rel => exact ⟨(wrap64 (x24_2 + 1)), (by first | rfl | (simp; done) | (simp [*]; done)), H', ⟨by have := HJ5.out; have := HK2.out; have := HJ11.out; have := HK4.out; omega⟩, by repeat (first | exact Drawn0.refl _ | apply Drawn0.step)⟩
                · rw [if_neg c11] at H
                  exact absurd H (by simp)
              · rw [if_neg c10] at H
                exact absurd H (by simp)
            · rw [if_neg c9] at H
              have c9b0 : decide (x24_2 < (l4.length : Int)) = false := decide_eq_false c9
              clear c9
              obtain rfl := Option.some.inj H
              go_wp2
              repeat (go_quiet (fail); try go_wp2)
              go_ret
              exact ⟨by first | rfl | (simp; done) | (simp [*]; done), by repeat (first | exact Drawn0.refl _ | apply Drawn0.step)⟩

end Go.Proofs.Ythpibikfecjoiaa.Own
