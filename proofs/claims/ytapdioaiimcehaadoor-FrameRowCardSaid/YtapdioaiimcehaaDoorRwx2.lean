-- own text: made by a program of this session out of the plain functions' print
import Derived.Test.YtapdioaiimcehaaDoorRwx0
import Derived.Test.YtapdioaiimcehaaDoorRwx1
namespace Go.Proofs.YtapdioaiimcehaaDoor.Rw
open Go.RowKit Go.Proofs.YtapdioaiimcehaaDoorW.PrintWords Go.Proofs.YtapdioaiimcehaaDoorW.PrintLast Go.Proofs.YtapdioaiimcehaaDoorW.PrintMore
attribute [local go_sem] max2_int min2_int max_two min_two max_three min_three max_four min_four   -- for this text's walks alone
set_option linter.unusedVariables false
set_option linter.unusedSimpArgs false

/-! ### vesperslaw06_FrameRow: function 6 -/
mutual
def vesperslaw06_FrameRow.j0 : Nat → Int → List (List Int) → List Int → Bool → Option (Bool)
  | 0, _, _, _, _ => none
  | k + 1, x0, x1, x2, x31 => if x31 = true then ((vesperslaw06_fixed.f k).bind fun t160 => (some t160)) else (vesperslaw06_FrameRow.l0 k x0 x1 x2 ([] : List Int) x1 (x1.length : Int) 0)
def vesperslaw06_FrameRow.l0 : Nat → Int → List (List Int) → List Int → List Int → List (List Int) → Int → Int → Option (Bool)
  | 0, _, _, _, _, _, _, _ => none
  | k + 1, x0, x1, x2, x7, x33, x34, x35 => if x35 < x34 then (if 0 ≤ x35 then (if x35 < (x33.length : Int) then (if ((rd_L2 x33 x35).length : Int) > 200 then ((vesperslaw06_fixed.f k).bind fun t162 => (some t162)) else ((frame_Put.f k x0 ((x35) % 4294967296) (rd_L2 x33 x35)).bind fun bt163 => (if bt163.2 = 0 then (if x7.length + bt163.1.length < 140737488355328 then (vesperslaw06_FrameRow.l0 k x0 x1 x2 (x7 ++ bt163.1) x33 x34 (wrap64 (x35 + 1))) else (none)) else (some false)))) else (none)) else (none)) else (if x7.length + x2.length < 140737488355328 then (vesperslaw06_FrameRow.l1 k x0 x1 x2 (x7 ++ x2) x1 (x1.length : Int) 0) else (none))
def vesperslaw06_FrameRow.l1 : Nat → Int → List (List Int) → List Int → List Int → List (List Int) → Int → Int → Option (Bool)
  | 0, _, _, _, _, _, _, _ => none
  | k + 1, x0, x1, x2, x7, x61, x62, x63 => if x63 < x62 then (if 0 ≤ x63 then (if x63 < (x61.length : Int) then ((frame_Get.f k x7 x0 ((x63) % 4294967296)).bind fun bt174 => (if bt174.2.2 = true then (if (strOfNums bt174.1).toList = (strOfNums (rd_L2 x61 x63)).toList then (if bt174.2.1 = (wrap64 (((rd_L2 x61 x63).length : Int) + 16)) then (if bt174.2.1 > (x7.length : Int) then (some false) else (if 0 ≤ bt174.2.1 then (if bt174.2.1 ≤ (x7.length : Int) then (vesperslaw06_FrameRow.l1 k x0 x1 x2 (x7.drop (bt174.2.1 : Int).toNat) x61 x62 (wrap64 (x63 + 1))) else (none)) else (none))) else (some false)) else (some false)) else (some false))) else (none)) else (none)) else ((frame_Get.f k x7 x0 (((x1.length : Int)) % 4294967296)).bind fun bt182 => ((vesperslaw06_fixed.f k).bind fun t187 => (if t187 = true then (if bt182.2.2 = true then (some false) else (some ((x7.length : Int) == (x2.length : Int)))) else (some false))))
end
def vesperslaw06_FrameRow.f (k : Nat) (a0 : Int) (l1 : List (List Int)) (l2 : List Int) : Option (Bool) := if a0 = 0 then (vesperslaw06_FrameRow.j0 k a0 l1 l2 true) else (if (l1.length : Int) > 20 then (vesperslaw06_FrameRow.j0 k a0 l1 l2 true) else (vesperslaw06_FrameRow.j0 k a0 l1 l2 (decide ((l2.length : Int) > 15))))
theorem vesperslaw06_FrameRow.mono_l : ∀ k, (∀ y0 y1 y2 y3, LeO (vesperslaw06_FrameRow.j0 k y0 y1 y2 y3) (vesperslaw06_FrameRow.j0 (k + 1) y0 y1 y2 y3)) ∧ (∀ y0 y1 y2 y3 y4 y5 y6, LeO (vesperslaw06_FrameRow.l0 k y0 y1 y2 y3 y4 y5 y6) (vesperslaw06_FrameRow.l0 (k + 1) y0 y1 y2 y3 y4 y5 y6)) ∧ (∀ y0 y1 y2 y3 y4 y5 y6, LeO (vesperslaw06_FrameRow.l1 k y0 y1 y2 y3 y4 y5 y6) (vesperslaw06_FrameRow.l1 (k + 1) y0 y1 y2 y3 y4 y5 y6))
  | 0 => ⟨fun _ _ _ _ r h => by simp [vesperslaw06_FrameRow.j0] at h, fun _ _ _ _ _ _ _ r h => by simp [vesperslaw06_FrameRow.l0] at h, fun _ _ _ _ _ _ _ r h => by simp [vesperslaw06_FrameRow.l1] at h⟩
  | k + 1 => by
    obtain ⟨ih0, ih1, ih2⟩ := vesperslaw06_FrameRow.mono_l k
    refine ⟨?_, ?_, ?_⟩
    · intro y0 y1 y2 y3
      unfold vesperslaw06_FrameRow.j0
      repeat' first
      | (with_reducible exact ih0 _ _ _ _)
      | (with_reducible exact ih1 _ _ _ _ _ _ _)
      | (with_reducible exact ih2 _ _ _ _ _ _ _)
      | (with_reducible exact frame_Get.mono _ _ _ _)
      | (with_reducible exact frame_Put.mono _ _ _ _)
      | (with_reducible exact vesperslaw06_fixed.mono _)
      | (with_reducible exact LeO.refl _)
      | (with_reducible exact LeO.none _)
      | (with_reducible refine LeO.ite ?_ ?_)
      | (with_reducible refine LeO.bind ?_ (fun _ => ?_))
      | exact ih0 _ _ _ _
      | exact ih1 _ _ _ _ _ _ _
      | exact ih2 _ _ _ _ _ _ _
      | exact frame_Get.mono _ _ _ _
      | exact frame_Put.mono _ _ _ _
      | exact vesperslaw06_fixed.mono _
      | exact LeO.none _
      | refine LeO.ite ?_ ?_
      | refine LeO.bind ?_ (fun _ => ?_)
    · intro y0 y1 y2 y3 y4 y5 y6
      unfold vesperslaw06_FrameRow.l0
      repeat' first
      | (with_reducible exact ih0 _ _ _ _)
      | (with_reducible exact ih1 _ _ _ _ _ _ _)
      | (with_reducible exact ih2 _ _ _ _ _ _ _)
      | (with_reducible exact frame_Get.mono _ _ _ _)
      | (with_reducible exact frame_Put.mono _ _ _ _)
      | (with_reducible exact vesperslaw06_fixed.mono _)
      | (with_reducible exact LeO.refl _)
      | (with_reducible exact LeO.none _)
      | (with_reducible refine LeO.ite ?_ ?_)
      | (with_reducible refine LeO.bind ?_ (fun _ => ?_))
      | exact ih0 _ _ _ _
      | exact ih1 _ _ _ _ _ _ _
      | exact ih2 _ _ _ _ _ _ _
      | exact frame_Get.mono _ _ _ _
      | exact frame_Put.mono _ _ _ _
      | exact vesperslaw06_fixed.mono _
      | exact LeO.none _
      | refine LeO.ite ?_ ?_
      | refine LeO.bind ?_ (fun _ => ?_)
    · intro y0 y1 y2 y3 y4 y5 y6
      unfold vesperslaw06_FrameRow.l1
      repeat' first
      | (with_reducible exact ih0 _ _ _ _)
      | (with_reducible exact ih1 _ _ _ _ _ _ _)
      | (with_reducible exact ih2 _ _ _ _ _ _ _)
      | (with_reducible exact frame_Get.mono _ _ _ _)
      | (with_reducible exact frame_Put.mono _ _ _ _)
      | (with_reducible exact vesperslaw06_fixed.mono _)
      | (with_reducible exact LeO.refl _)
      | (with_reducible exact LeO.none _)
      | (with_reducible refine LeO.ite ?_ ?_)
      | (with_reducible refine LeO.bind ?_ (fun _ => ?_))
      | exact ih0 _ _ _ _
      | exact ih1 _ _ _ _ _ _ _
      | exact ih2 _ _ _ _ _ _ _
      | exact frame_Get.mono _ _ _ _
      | exact frame_Put.mono _ _ _ _
      | exact vesperslaw06_fixed.mono _
      | exact LeO.none _
      | refine LeO.ite ?_ ?_
      | refine LeO.bind ?_ (fun _ => ?_)
theorem vesperslaw06_FrameRow.mono : ∀ a0 a1 a2 k, LeO (vesperslaw06_FrameRow.f k a0 a1 a2) (vesperslaw06_FrameRow.f (k + 1) a0 a1 a2) := by
  intro a0 a1 a2 k
  obtain ⟨ih0, ih1, ih2⟩ := vesperslaw06_FrameRow.mono_l k
  unfold vesperslaw06_FrameRow.f
  repeat' first
      | (with_reducible exact ih0 _ _ _ _)
      | (with_reducible exact ih1 _ _ _ _ _ _ _)
      | (with_reducible exact ih2 _ _ _ _ _ _ _)
      | (with_reducible exact frame_Get.mono _ _ _ _)
      | (with_reducible exact frame_Put.mono _ _ _ _)
      | (with_reducible exact vesperslaw06_fixed.mono _)
      | (with_reducible exact LeO.refl _)
      | (with_reducible exact LeO.none _)
      | (with_reducible refine LeO.ite ?_ ?_)
      | (with_reducible refine LeO.bind ?_ (fun _ => ?_))
      | exact ih0 _ _ _ _
      | exact ih1 _ _ _ _ _ _ _
      | exact ih2 _ _ _ _ _ _ _
      | exact frame_Get.mono _ _ _ _
      | exact frame_Put.mono _ _ _ _
      | exact vesperslaw06_fixed.mono _
      | exact LeO.none _
      | refine LeO.ite ?_ ?_
      | refine LeO.bind ?_ (fun _ => ?_)
set_option maxHeartbeats 8000000 in
set_option maxRecDepth 100000 in
theorem vesperslaw06_FrameRow.calls (k : Nat) (a0 : Int) (A1 : Option Addr) (c1 : Nat) (l1 : List (List Int)) (A2 : Option Addr) (c2 : Nat) (l2 : List Int) (r : Bool) (w : World) (hr1 : Kd.C (Kd.slice 5 (Kd.int .u8)) w A1 l1.length l1) (hc1 : l1.length ≤ c1) (hr2 : Kd.C (Kd.int .u8) w A2 l2.length l2) (hc2 : l2.length ≤ c2) (HT : Aside0 (Tbl w)) (h : vesperslaw06_FrameRow.f k a0 l1 l2 = some r) :
    Calls Tryd.prog 6 #[.int .u32 a0, .slice A1 l1.length c1, .slice A2 l2.length c2] w fun e w' => e = .returned (.bool r) ∧ Below w.heap.size w w' := by
  have HR1 := Aside0.mk hr1
  have HC1 := Aside0.mk hc1
  clear hr1 hc1
  have HR2 := Aside0.mk hr2
  have HC2 := Aside0.mk hc2
  clear hr2 hc2
  have HB := Aside0.mk (Below.refl w.heap.size w)
  have H : (if a0 = 0 then (vesperslaw06_FrameRow.j0 k a0 l1 l2 true) else (if (l1.length : Int) > 20 then (vesperslaw06_FrameRow.j0 k a0 l1 l2 true) else (vesperslaw06_FrameRow.j0 k a0 l1 l2 (decide ((l2.length : Int) > 15))))) = some r := h
  clear h
  have HC4 := Aside0.mk H
  clear H
  go_enter Tryd.func6, Tryd.ntmps6
  go_upto_region 1 with (fail)
  go_cut [31] (fun v31 wc => ∃ (kq : Nat) (x31_3 : Bool), v31 = .bool x31_3 ∧ Aside0 (vesperslaw06_FrameRow.j0 kq a0 l1 l2 x31_3 = some r) ∧ Aside0 (kq ≤ k) ∧ Aside0 (Below w.heap.size w wc))
  case first =>
    have H := HC4.out
    clear HC4
    by_cases c5 : a0 = 0
    · rw [if_pos c5] at H
      have c5b0 : (a0 == 0) = true := beq_iff_eq.mpr c5
      have c5b1 : (a0 != 0) = false := bne_eq_false_iff_eq.mpr c5
      clear c5
      (first | rw [c5b0] | (simp only [i64_w, i32_w]; rw [c5b0]) | skip)
      have H' := Aside0.mk H
      clear H
      go_wp2
      go_meet
      case rel => exact ⟨_, (true), (by first | rfl | (simp; done) | (simp [*]; done)), H', ⟨by first | omega | exact Nat.le_refl _⟩, ⟨by repeat (first | (with_reducible first | exact HB.out | apply below_alloc | apply pw_below_drewN | apply below_drew1) | exact HB.out)⟩⟩
    · rw [if_neg c5] at H
      have c5b0 : (a0 == 0) = false := beq_eq_false_iff_ne.mpr c5
      have c5b1 : (a0 != 0) = true := bne_iff_ne.mpr c5
      (first | rw [c5b0] | (simp only [i64_w, i32_w]; rw [c5b0]) | skip)
      by_cases c6 : (l1.length : Int) > 20
      · rw [if_pos c6] at H
        have c6b0 : decide (20 < (l1.length : Int)) = true := decide_eq_true c6
        have c6b1 : decide (20 < l1.length) = true := decide_eq_true (by omega)
        clear c6
        have H' := Aside0.mk H
        clear H
        go_wp2
        go_meet
        case rel => exact ⟨_, (true), (by first | rfl | (simp; done) | (simp [*]; done)), H', ⟨by first | omega | exact Nat.le_refl _⟩, ⟨by repeat (first | (with_reducible first | exact HB.out | apply below_alloc | apply pw_below_drewN | apply below_drew1) | exact HB.out)⟩⟩
      · rw [if_neg c6] at H
        have c6b0 : decide (20 < (l1.length : Int)) = false := decide_eq_false c6
        have c6b1 : decide (20 < l1.length) = false := decide_eq_false (by omega)
        clear c6
        have H' := Aside0.mk H
        clear H
        go_wp2
        go_meet
        case rel => exact ⟨_, (decide ((l2.length : Int) > 15)), (by first | rfl | (simp; done) | (simp [*]; done)), H', ⟨by first | omega | exact Nat.le_refl _⟩, ⟨by repeat (first | (with_reducible first | exact HB.out | apply below_alloc | apply pw_below_drewN | apply below_drew1) | exact HB.out)⟩⟩
  case rest =>
    clear HC4
    try clear c1
    try clear c2
    try clear p2
    try clear c5
    try clear c5b0
    try clear c5b1
    try clear c6
    try clear c6b0
    try clear c6b1
    obtain ⟨kq, x31_3, rfl, HA, HJ3, HB⟩ := hcut
    cases kq with
    | zero => exact absurd HA.out (by simp [vesperslaw06_FrameRow.j0])
    | succ kj3 =>
      have H := HA.out
      clear HA
      simp only [vesperslaw06_FrameRow.j0] at H
      by_cases c7 : x31_3 = true
      · subst c7
        have H1 : ((vesperslaw06_fixed.f kj3).bind fun t160 => (some t160)) = some r := by rw [if_pos rfl] at H; exact H
        clear H
        have H := H1
        clear H1
        replace H := Option.bind_eq_some_iff.mp H
        obtain ⟨t160, A80, H⟩ := H
        replace H : (some t160) = some r := H
        have A8 := Aside0.mk A80
        clear A80
        obtain rfl := Option.some.inj H
        go_wp2_with (first | ((with_reducible refine gate_callee (f := 8) rfl ?_); refine goesL_ (some 32) rfl rfl Tryd.func8 (by kernel_rfl) rfl #[] rfl (by (try simp only [List.map_toArray, List.map_cons, List.map_nil]); first | done | rfl | (simp only [List.length_drop, List.length_take]; rfl)) ?_; (with_reducible refine (vesperslaw06_fixed.calls kj3  t160 _ ?side1 A8.out).mono ?_); (case side1 => exact ⟨tbl_below HT.out (by repeat (first | (with_reducible first | exact HB.out | apply below_alloc | apply pw_below_drewN | apply below_drew1) | exact HB.out))⟩); rintro e w9 ⟨rfl, hb⟩; refine ⟨_, rfl, ?_⟩; have n0_ := Aside0.mk (below_step (by repeat (first | (with_reducible first | exact HB.out | apply below_alloc | apply pw_below_drewN | apply below_drew1) | exact HB.out)) hb); clear HB; have HB := n0_; clear n0_; (try clear hb); (try clear hb2); (try clear hk); (try clear hi)))
        go_ret
        exact ⟨by first | rfl | (simp [errW_none, errW_some] <;> rfl) | (simp [*, errW_none, errW_some] <;> rfl) | (simp only [IntWalk.i64_left]; rfl), by repeat (first | (with_reducible first | exact HB.out | apply below_alloc | apply pw_below_drewN | apply below_drew1) | exact HB.out)⟩
      · replace c7 := Bool.eq_false_iff.mpr c7
        subst c7
        have H1 : (vesperslaw06_FrameRow.l0 kj3 a0 l1 l2 ([] : List Int) l1 (l1.length : Int) 0) = some r := by rw [if_neg (show ¬ (false = true) by decide)] at H; exact H
        clear H
        have H := H1
        clear H1
        have H' := Aside0.mk H
        clear H
        go_wp2
        go_loopg [7, 35] kj3 (fun kq v7 v35 w' => ∃ (x7_2 : List Int) (x35_2 : Int), v35 = .int .i64 x35_2 ∧ Aside0 (vesperslaw06_FrameRow.l0 kq a0 l1 l2 x7_2 l1 (l1.length : Int) x35_2 = some r) ∧ Aside0 (kq ≤ kj3) ∧ Aside0 (Kd.R (Kd.int .u8) 5 w' w.heap.size (fun _ => True) v7 x7_2) ∧ Aside0 (Below w.heap.size w w'))
        case atStart => exact ⟨(([] : List Int)), (0), (by first | rfl | (simp; done) | (simp [*]; done)), H', ⟨Nat.le_refl _⟩, ⟨by first | exact Kd.R_nil _ _ _ _ _ | exact Kd.N_nil _ _ _ _ _ | exact Kd.V_nil _ _ _ _ _ | exact Kd.Q_nil _ _ _ _ _ | exact Kd.S_nil _ _ _ _ _⟩, ⟨by repeat (first | (with_reducible first | exact HB.out | apply below_alloc | apply pw_below_drewN | apply below_drew1) | exact HB.out)⟩⟩
        case round =>
          clear H'
          try clear c1
          try clear c2
          try clear p2
          try clear c5
          try clear c5b0
          try clear c5b1
          try clear c6
          try clear c6b0
          try clear c6b1
          try clear c7
          try clear c8
          try clear p2
          obtain ⟨x7_2, x35_2, rfl, HA, HK2, HO_7, HB⟩ := hrel
          cases gk with
          | zero => exact absurd HA.out (by simp [vesperslaw06_FrameRow.l0])
          | succ k2 =>
            have H := HA.out
            clear HA
            simp only [vesperslaw06_FrameRow.l0] at H
            by_cases c10 : x35_2 < (l1.length : Int)
            · rw [if_pos c10] at H
              have c10b0 : decide (x35_2 < (l1.length : Int)) = true := decide_eq_true c10
              clear c10
              by_cases c11 : 0 ≤ x35_2
              · rw [if_pos c11] at H
                have c11b0 : decide (0 ≤ x35_2) = true := decide_eq_true c11
                clear c11
                by_cases c12 : x35_2 < (l1.length : Int)
                · rw [if_pos c12] at H
                  have c12b0 : decide (x35_2 < (l1.length : Int)) = true := decide_eq_true c12
                  clear c12
                  by_cases c13 : ((rd_L2 l1 x35_2).length : Int) > 200
                  · rw [if_pos c13] at H
                    have c13b0 : decide (200 < ((rd_L2 l1 x35_2).length : Int)) = true := decide_eq_true c13
                    have c13b1 : decide (200 < (rd_L2 l1 x35_2).length) = true := decide_eq_true (by omega)
                    clear c13
                    replace H := Option.bind_eq_some_iff.mp H
                    obtain ⟨t162, A140, H⟩ := H
                    replace H : (some t162) = some r := H
                    have A14 := Aside0.mk A140
                    clear A140
                    obtain rfl := Option.some.inj H
                    have p161 : 0 ≤ (x35_2 : Int) := of_decide_eq_true (by first | (with_reducible assumption) | assumption)
                    have q161 : x35_2 < (l1.length : Int) := of_decide_eq_true (by first | (with_reducible assumption) | assumption)
                    obtain ⟨ad161, A161_0, c161_0, e161, hx161_0, hl161_0, hi161_0⟩ := at_L2 HR1.out x35_2 p161 q161
                    cases e161
                    replace hx161_0 := (HB.out.cell (World.block_lt_of_cell? w _ hx161_0)).trans hx161_0
                    have HR161_0 := Aside0.mk hi161_0
                    have HC161_0 := Aside0.mk hl161_0
                    clear hi161_0 hl161_0
                    replace p161 := eq_true p161
                    replace q161 := eq_true q161
                    go_wp2_with (first | ((with_reducible refine gate_callee (f := 8) rfl ?_); refine goesL_ (some 43) rfl rfl Tryd.func8 (by kernel_rfl) rfl #[] rfl (by (try simp only [List.map_toArray, List.map_cons, List.map_nil]); first | done | rfl | (simp only [List.length_drop, List.length_take]; rfl)) ?_; (with_reducible refine (vesperslaw06_fixed.calls k2  t162 _ ?side1 A14.out).mono ?_); (case side1 => exact ⟨tbl_below HT.out (by repeat (first | (with_reducible first | exact HB.out | apply below_alloc | apply pw_below_drewN | apply below_drew1) | exact HB.out))⟩); rintro e w15 ⟨rfl, hb⟩; refine ⟨_, rfl, ?_⟩; have n0_ := Aside0.mk (Kd.R_below (by (with_reducible repeat (first | apply Kd.R_alloc | apply Kd.R_drewN | apply Kd.R_drew)); exact HO_7.out) hb); have n1_ := Aside0.mk (below_step (by repeat (first | (with_reducible first | exact HB.out | apply below_alloc | apply pw_below_drewN | apply below_drew1) | exact HB.out)) hb); clear HO_7; clear HB; have HO_7 := n0_; have HB := n1_; clear n0_ n1_; (try clear hb); (try clear hb2); (try clear hk); (try clear hi)))
                    go_ret
                    exact ⟨by first | rfl | (simp [errW_none, errW_some] <;> rfl) | (simp [*, errW_none, errW_some] <;> rfl) | (simp only [IntWalk.i64_left]; rfl), by repeat (first | (with_reducible first | exact HB.out | apply below_alloc | apply pw_below_drewN | apply below_drew1) | exact HB.out)⟩
                  · rw [if_neg c13] at H
                    have c13b0 : decide (200 < ((rd_L2 l1 x35_2).length : Int)) = false := decide_eq_false c13
                    have c13b1 : decide (200 < (rd_L2 l1 x35_2).length) = false := decide_eq_false (by omega)
                    clear c13
                    replace H := Option.bind_eq_some_iff.mp H
                    obtain ⟨⟨t163, t164⟩, A160, H⟩ := H
                    replace H : (if t164 = 0 then (if x7_2.length + t163.length < 140737488355328 then (vesperslaw06_FrameRow.l0 k2 a0 l1 l2 (x7_2 ++ t163) l1 (l1.length : Int) (wrap64 (x35_2 + 1))) else (none)) else (some false)) = some r := H
                    have A16 := Aside0.mk A160
                    clear A160
                    by_cases c17 : t164 = 0
                    · rw [if_pos c17] at H
                      have c17b0 : (t164 == 0) = true := beq_iff_eq.mpr c17
                      have c17b1 : (t164 != 0) = false := bne_eq_false_iff_eq.mpr c17
                      clear c17
                      by_cases c18 : x7_2.length + t163.length < 140737488355328
                      · rw [if_pos c18] at H
                        have LMc18 := Aside0.mk c18
                        clear c18
                        obtain ⟨y167, hy167⟩ : ∃ y_ : List Int, y_ = (x7_2 ++ t163) := ⟨_, rfl⟩
                        replace H : (vesperslaw06_FrameRow.l0 k2 a0 l1 l2 y167 l1 (l1.length : Int) (wrap64 (x35_2 + 1))) = some r := by first | (rw [hy167]; with_reducible exact H) | (have H2_ := (Option.bind_some _ _).symm.trans H; rw [hy167]; with_reducible exact H2_) | (have H2_ := (Option.bind_some _ _).symm.trans H; with_reducible exact H2_) | with_reducible exact H | (rw [hy167]; exact H) | exact H
                        have Ny167 := Aside0.mk hy167
                        clear hy167
                        have H' := Aside0.mk H
                        clear H
                        have p161 : 0 ≤ (x35_2 : Int) := of_decide_eq_true (by first | (with_reducible assumption) | assumption)
                        have q161 : x35_2 < (l1.length : Int) := of_decide_eq_true (by first | (with_reducible assumption) | assumption)
                        obtain ⟨ad161, A161_0, c161_0, e161, hx161_0, hl161_0, hi161_0⟩ := at_L2 HR1.out x35_2 p161 q161
                        cases e161
                        replace hx161_0 := (HB.out.cell (World.block_lt_of_cell? w _ hx161_0)).trans hx161_0
                        have HR161_0 := Aside0.mk hi161_0
                        have HC161_0 := Aside0.mk hl161_0
                        clear hi161_0 hl161_0
                        replace p161 := eq_true p161
                        replace q161 := eq_true q161
                        go_wp2_with (first | ((with_reducible refine gate_callee (f := 12) rfl ?_); refine goesL_ (some 49) rfl rfl Tryd.func12 (by kernel_rfl) rfl #[.int .u32 a0, .int .u32 ((x35_2) % 4294967296), .slice A161_0 (rd_L2 l1 x35_2).length c161_0] rfl (by (try simp only [List.map_toArray, List.map_cons, List.map_nil]); first | done | rfl | (simp only [List.length_drop, List.length_take]; rfl)) ?_; (with_reducible refine (frame_Put.calls k2 a0 ((x35_2) % 4294967296) _ _ (rd_L2 l1 x35_2) t163 t164 _ ?side1 ?side2 ?side3 A16.out).mono ?_); (case side1 => repeat (first | exact (Kd.C_below HR161_0.out HB.out) | (with_reducible refine Kd.C_alloc ?_ _) | (with_reducible refine Kd.C_drewN ?_ _) | (with_reducible refine Kd.C_drew ?_))); (case side2 => exact HC161_0.out); (case side3 => exact ⟨tbl_below HT.out (by repeat (first | (with_reducible first | exact HB.out | apply below_alloc | apply pw_below_drewN | apply below_drew1) | exact HB.out))⟩); rintro e w19 ⟨v165, rfl, ho0, hb⟩; refine ⟨_, rfl, ?_⟩; have n0_ := Aside0.mk (Kd.R_elder' (by (with_reducible repeat (first | apply Kd.R_alloc | apply Kd.R_drewN | apply Kd.R_drew)); exact HO_7.out) (Kd.R_base ho0) hb); have n1_ := Aside0.mk (Kd.R_lower (Kd.R_new' ho0 (Kd.R_lt (by (with_reducible repeat (first | apply Kd.R_alloc | apply Kd.R_drewN | apply Kd.R_drew)); exact HO_7.out))) (below_size (by repeat (first | (with_reducible first | exact HB.out | apply below_alloc | apply pw_below_drewN | apply below_drew1) | exact HB.out)))); have n2_ := Aside0.mk (below_step (by repeat (first | (with_reducible first | exact HB.out | apply below_alloc | apply pw_below_drewN | apply below_drew1) | exact HB.out)) hb); clear HO_7; clear HB; have HO_7 := n0_; have HO166 := n1_; have HB := n2_; clear n0_ n1_ n2_; (try clear hb); (try clear hb2); (try clear hk); (try clear hi); (try clear ho0); obtain ⟨Ao21, co21, eo21⟩ := Kd.R_slice HO166.out; subst eo21) | ((with_reducible refine gate_builtin (b := .append) (xs := #[.tmp 54, .tmp 55]) rfl ?_); (try (refine gate_guard (by rfl) ?_; dsimp only)); at_builtin; refine Kd.R_append_rows (Kd.int .u8) (w0 := w) w.heap.size rfl (.tmp 54) (.tmp 55) 22 5 (.int .u8 0) 1 rfl Tryd.underlying22 info5 rfl (by decide) (by omega) u7 x7_2 t163 _ _ _ (fun k_ => some k_ ≠ (.slice Ao21 t163.length co21 : Value).ownBlock) (fun _ => False) rfl rfl ?aO ?aR (fun _ _ h => h) (fun _ h => h.elim) ?aF ?aB ?aS ?aL ?_; (case aR => repeat (first | exact (Kd.R_reads' HO166.out).2.2 | (with_reducible refine Kd.C_alloc ?_ _) | (with_reducible refine Kd.C_drewN ?_ _) | (with_reducible refine Kd.C_drew ?_))); (case aB => exact (by repeat (first | (with_reducible first | exact HB.out | apply below_alloc | apply pw_below_drewN | apply below_drew1) | exact HB.out))); (case aF => exact (fun k_ hk => Kd.fresh' (Kd.R_lt (by (with_reducible repeat (first | apply Kd.R_alloc | apply Kd.R_drewN | apply Kd.R_drew)); exact HO166.out)) k_ hk)); (case aO => exact (by (with_reducible repeat (first | apply Kd.R_alloc | apply Kd.R_drewN | apply Kd.R_drew)); exact Kd.R_mono HO_7.out (fun _ hk => hk.2))); (case aS => exact (below_size (by repeat (first | (with_reducible first | exact HB.out | apply below_alloc | apply pw_below_drewN | apply below_drew1) | exact HB.out)))); (case aL => have := LMc18.out; omega); intro v168 w20 ho hb hg hat; rw [← Ny167.out] at ho; have n0_ := Aside0.mk (Kd.R_after (ok := (fun _ => True)) (by (with_reducible repeat (first | apply Kd.R_alloc | apply Kd.R_drewN | apply Kd.R_drew)); exact HO166.out) hg hat); have n1_ := Aside0.mk (hb); have n2_ := Aside0.mk (ho); clear HO166; clear HB; clear HO_7; have HO166 := n0_; have HB := n1_; have HO169 := n2_; clear n0_ n1_ n2_; clear ho hb hg hat))
                        go_roundg k2
                        case measure => have := HJ3.out; have := HK2.out; omega
                        case rel => exact ⟨(y167), (wrap64 (x35_2 + 1)), (by first | rfl | (simp; done) | (simp [*]; done)), H', ⟨by have := HJ3.out; have := HK2.out; omega⟩, ⟨by (with_reducible repeat (first | apply Kd.R_alloc | apply Kd.R_drewN | apply Kd.R_drew)); exact Kd.R_mono HO169.out (fun _ hk => trivial)⟩, ⟨by repeat (first | (with_reducible first | exact HB.out | apply below_alloc | apply pw_below_drewN | apply below_drew1) | exact HB.out)⟩⟩
                      · rw [if_neg c18] at H
                        exact absurd H (by simp)
                    · rw [if_neg c17] at H
                      have c17b0 : (t164 == 0) = false := beq_eq_false_iff_ne.mpr c17
                      have c17b1 : (t164 != 0) = true := bne_iff_ne.mpr c17
                      obtain rfl := Option.some.inj H
                      have p161 : 0 ≤ (x35_2 : Int) := of_decide_eq_true (by first | (with_reducible assumption) | assumption)
                      have q161 : x35_2 < (l1.length : Int) := of_decide_eq_true (by first | (with_reducible assumption) | assumption)
                      obtain ⟨ad161, A161_0, c161_0, e161, hx161_0, hl161_0, hi161_0⟩ := at_L2 HR1.out x35_2 p161 q161
                      cases e161
                      replace hx161_0 := (HB.out.cell (World.block_lt_of_cell? w _ hx161_0)).trans hx161_0
                      have HR161_0 := Aside0.mk hi161_0
                      have HC161_0 := Aside0.mk hl161_0
                      clear hi161_0 hl161_0
                      replace p161 := eq_true p161
                      replace q161 := eq_true q161
                      go_wp2_with (first | ((with_reducible refine gate_callee (f := 12) rfl ?_); refine goesL_ (some 49) rfl rfl Tryd.func12 (by kernel_rfl) rfl #[.int .u32 a0, .int .u32 ((x35_2) % 4294967296), .slice A161_0 (rd_L2 l1 x35_2).length c161_0] rfl (by (try simp only [List.map_toArray, List.map_cons, List.map_nil]); first | done | rfl | (simp only [List.length_drop, List.length_take]; rfl)) ?_; (with_reducible refine (frame_Put.calls k2 a0 ((x35_2) % 4294967296) _ _ (rd_L2 l1 x35_2) t163 t164 _ ?side1 ?side2 ?side3 A16.out).mono ?_); (case side1 => repeat (first | exact (Kd.C_below HR161_0.out HB.out) | (with_reducible refine Kd.C_alloc ?_ _) | (with_reducible refine Kd.C_drewN ?_ _) | (with_reducible refine Kd.C_drew ?_))); (case side2 => exact HC161_0.out); (case side3 => exact ⟨tbl_below HT.out (by repeat (first | (with_reducible first | exact HB.out | apply below_alloc | apply pw_below_drewN | apply below_drew1) | exact HB.out))⟩); rintro e w22 ⟨v165, rfl, ho0, hb⟩; refine ⟨_, rfl, ?_⟩; have n0_ := Aside0.mk (Kd.R_elder' (by (with_reducible repeat (first | apply Kd.R_alloc | apply Kd.R_drewN | apply Kd.R_drew)); exact HO_7.out) (Kd.R_base ho0) hb); have n1_ := Aside0.mk (Kd.R_lower (Kd.R_new' ho0 (Kd.R_lt (by (with_reducible repeat (first | apply Kd.R_alloc | apply Kd.R_drewN | apply Kd.R_drew)); exact HO_7.out))) (below_size (by repeat (first | (with_reducible first | exact HB.out | apply below_alloc | apply pw_below_drewN | apply below_drew1) | exact HB.out)))); have n2_ := Aside0.mk (below_step (by repeat (first | (with_reducible first | exact HB.out | apply below_alloc | apply pw_below_drewN | apply below_drew1) | exact HB.out)) hb); clear HO_7; clear HB; have HO_7 := n0_; have HO166 := n1_; have HB := n2_; clear n0_ n1_ n2_; (try clear hb); (try clear hb2); (try clear hk); (try clear hi); (try clear ho0)))
                      go_ret
                      exact ⟨by first | rfl | (simp [errW_none, errW_some] <;> rfl) | (simp [*, errW_none, errW_some] <;> rfl) | (simp only [IntWalk.i64_left]; rfl), by repeat (first | (with_reducible first | exact HB.out | apply below_alloc | apply pw_below_drewN | apply below_drew1) | exact HB.out)⟩
                · rw [if_neg c12] at H
                  exact absurd H (by simp)
              · rw [if_neg c11] at H
                exact absurd H (by simp)
            · rw [if_neg c10] at H
              have c10b0 : decide (x35_2 < (l1.length : Int)) = false := decide_eq_false c10
              clear c10
              by_cases c23 : x7_2.length + l2.length < 140737488355328
              · rw [if_pos c23] at H
                have LMc23 := Aside0.mk c23
                clear c23
                obtain ⟨y170, hy170⟩ : ∃ y_ : List Int, y_ = (x7_2 ++ l2) := ⟨_, rfl⟩
                replace H : (vesperslaw06_FrameRow.l1 k2 a0 l1 l2 y170 l1 (l1.length : Int) 0) = some r := by first | (rw [hy170]; with_reducible exact H) | (have H2_ := (Option.bind_some _ _).symm.trans H; rw [hy170]; with_reducible exact H2_) | (have H2_ := (Option.bind_some _ _).symm.trans H; with_reducible exact H2_) | with_reducible exact H | (rw [hy170]; exact H) | exact H
                have Ny170 := Aside0.mk hy170
                clear hy170
                have H' := Aside0.mk H
                clear H
                go_wp2_with (first | ((with_reducible refine gate_builtin (b := .append) (xs := #[.tmp 58, .tmp 59]) rfl ?_); (try (refine gate_guard (by rfl) ?_; dsimp only)); at_builtin; refine Kd.R_append_rows (Kd.int .u8) (w0 := w) w.heap.size rfl (.tmp 58) (.tmp 59) 22 5 (.int .u8 0) 1 rfl Tryd.underlying22 info5 rfl (by decide) (by omega) u7 x7_2 l2 _ _ _ (fun _ => True) (fun _ => False) rfl rfl ?aO ?aR (fun _ _ h => h) (fun _ h => h.elim) ?aF ?aB ?aS ?aL ?_; (case aR => repeat (first | exact (Kd.C_below HR2.out HB.out) | (with_reducible refine Kd.C_alloc ?_ _) | (with_reducible refine Kd.C_drewN ?_ _) | (with_reducible refine Kd.C_drew ?_))); (case aB => exact (by repeat (first | (with_reducible first | exact HB.out | apply below_alloc | apply pw_below_drewN | apply below_drew1) | exact HB.out))); (case aF => exact (fun _ _ => trivial)); (case aO => exact (by (with_reducible repeat (first | apply Kd.R_alloc | apply Kd.R_drewN | apply Kd.R_drew)); exact HO_7.out)); (case aS => exact (below_size (by repeat (first | (with_reducible first | exact HB.out | apply below_alloc | apply pw_below_drewN | apply below_drew1) | exact HB.out)))); (case aL => have := LMc23.out; omega); intro v171 w24 ho hb hg hat; rw [← Ny170.out] at ho; have n0_ := Aside0.mk (hb); have n1_ := Aside0.mk (ho); clear HB; clear HO_7; have HB := n0_; have HO172 := n1_; clear n0_ n1_; clear ho hb hg hat))
                go_loopg [7, 63] k2 (fun kq v7 v63 w' => ∃ (x7_3 : List Int) (x63_3 : Int), v63 = .int .i64 x63_3 ∧ Aside0 (vesperslaw06_FrameRow.l1 kq a0 l1 l2 x7_3 l1 (l1.length : Int) x63_3 = some r) ∧ Aside0 (kq ≤ k2) ∧ Aside0 (Kd.Q (Kd.int .u8) 5 w' w.heap.size (fun _ => True) v7 x7_3) ∧ Aside0 (Below w.heap.size w w'))
                case atStart => exact ⟨(y170), (0), (by first | rfl | (simp; done) | (simp [*]; done)), H', ⟨Nat.le_refl _⟩, ⟨Kd.Q_of_R (by (with_reducible repeat (first | apply Kd.R_alloc | apply Kd.R_drewN | apply Kd.R_drew)); exact HO172.out)⟩, ⟨by repeat (first | (with_reducible first | exact HB.out | apply below_alloc | apply pw_below_drewN | apply below_drew1) | exact HB.out)⟩⟩
                case round =>
                  clear H'
                  try clear c1
                  try clear p1
                  try clear q1
                  try clear hx1
                  try clear c2
                  try clear p2
                  try clear c5
                  try clear c5b0
                  try clear c5b1
                  try clear c6
                  try clear c6b0
                  try clear c6b1
                  try clear p6
                  try clear c7
                  try clear c8
                  try clear c10
                  try clear c10b0
                  try clear c11
                  try clear c11b0
                  try clear c12
                  try clear c12b0
                  try clear c13
                  try clear c13b0
                  try clear c13b1
                  try clear c16
                  try clear p16
                  try clear q16
                  try clear hx16
                  try clear c17
                  try clear c17b0
                  try clear c17b1
                  try clear c18
                  try clear c23
                  try clear hx161_0
                  try clear p161
                  try clear p2
                  try clear q161
                  obtain ⟨x7_3, x63_3, rfl, HA, HK3, HO_7, HB⟩ := hrel
                  cases gk with
                  | zero => exact absurd HA.out (by simp [vesperslaw06_FrameRow.l1])
                  | succ k3 =>
                    have H := HA.out
                    clear HA
                    simp only [vesperslaw06_FrameRow.l1] at H
                    by_cases c25 : x63_3 < (l1.length : Int)
                    · rw [if_pos c25] at H
                      have c25b0 : decide (x63_3 < (l1.length : Int)) = true := decide_eq_true c25
                      clear c25
                      by_cases c26 : 0 ≤ x63_3
                      · rw [if_pos c26] at H
                        have c26b0 : decide (0 ≤ x63_3) = true := decide_eq_true c26
                        clear c26
                        by_cases c27 : x63_3 < (l1.length : Int)
                        · rw [if_pos c27] at H
                          have c27b0 : decide (x63_3 < (l1.length : Int)) = true := decide_eq_true c27
                          clear c27
                          replace H := Option.bind_eq_some_iff.mp H
                          obtain ⟨⟨t174, t175, t176⟩, A280, H⟩ := H
                          replace H : (if t176 = true then (if (strOfNums t174).toList = (strOfNums (rd_L2 l1 x63_3)).toList then (if t175 = (wrap64 (((rd_L2 l1 x63_3).length : Int) + 16)) then (if t175 > (x7_3.length : Int) then (some false) else (if 0 ≤ t175 then (if t175 ≤ (x7_3.length : Int) then (vesperslaw06_FrameRow.l1 k3 a0 l1 l2 (x7_3.drop (t175 : Int).toNat) l1 (l1.length : Int) (wrap64 (x63_3 + 1))) else (none)) else (none))) else (some false)) else (some false)) else (some false)) = some r := H
                          have A28 := Aside0.mk A280
                          clear A280
                          by_cases c29 : t176 = true
                          · subst c29
                            have H1 : (if (strOfNums t174).toList = (strOfNums (rd_L2 l1 x63_3)).toList then (if t175 = (wrap64 (((rd_L2 l1 x63_3).length : Int) + 16)) then (if t175 > (x7_3.length : Int) then (some false) else (if 0 ≤ t175 then (if t175 ≤ (x7_3.length : Int) then (vesperslaw06_FrameRow.l1 k3 a0 l1 l2 (x7_3.drop (t175 : Int).toNat) l1 (l1.length : Int) (wrap64 (x63_3 + 1))) else (none)) else (none))) else (some false)) else (some false)) = some r := by rw [if_pos rfl] at H; exact H
                            clear H
                            have H := H1
                            clear H1
                            by_cases c30 : (strOfNums t174).toList = (strOfNums (rd_L2 l1 x63_3)).toList
                            · rw [if_pos c30] at H
                              have c30b0 : ((strOfNums t174).toList == (strOfNums (rd_L2 l1 x63_3)).toList) = true := beq_iff_eq.mpr c30
                              have c30b1 : ((strOfNums t174).toList != (strOfNums (rd_L2 l1 x63_3)).toList) = false := bne_eq_false_iff_eq.mpr c30
                              clear c30
                              by_cases c31 : t175 = (wrap64 (((rd_L2 l1 x63_3).length : Int) + 16))
                              · rw [if_pos c31] at H
                                have c31b0 : (t175 == (wrap64 (((rd_L2 l1 x63_3).length : Int) + 16))) = true := beq_iff_eq.mpr c31
                                have c31b1 : (t175 != (wrap64 (((rd_L2 l1 x63_3).length : Int) + 16))) = false := bne_eq_false_iff_eq.mpr c31
                                clear c31
                                by_cases c32 : t175 > (x7_3.length : Int)
                                · rw [if_pos c32] at H
                                  have c32b0 : decide ((x7_3.length : Int) < t175) = true := decide_eq_true c32
                                  clear c32
                                  obtain rfl := Option.some.inj H
                                  have p173 : 0 ≤ (x63_3 : Int) := of_decide_eq_true (by first | (with_reducible assumption) | assumption)
                                  have q173 : x63_3 < (l1.length : Int) := of_decide_eq_true (by first | (with_reducible assumption) | assumption)
                                  obtain ⟨ad173, A173_0, c173_0, e173, hx173_0, hl173_0, hi173_0⟩ := at_L2 HR1.out x63_3 p173 q173
                                  cases e173
                                  replace hx173_0 := (HB.out.cell (World.block_lt_of_cell? w _ hx173_0)).trans hx173_0
                                  have HR173_0 := Aside0.mk hi173_0
                                  have HC173_0 := Aside0.mk hl173_0
                                  clear hi173_0 hl173_0
                                  replace p173 := eq_true p173
                                  replace q173 := eq_true q173
                                  obtain ⟨Ao33, co33, eo33, _⟩ := Kd.Q_slice HO_7.out
                                  subst eo33
                                  go_wp2_with (first | ((with_reducible refine gate_callee (f := 9) rfl ?_); refine goesL_ (some 73) rfl rfl Tryd.func9 (by kernel_rfl) rfl #[.slice Ao33 x7_3.length co33, .int .u32 a0, .int .u32 ((x63_3) % 4294967296)] rfl (by (try simp only [List.map_toArray, List.map_cons, List.map_nil]); first | done | rfl | (simp only [List.length_drop, List.length_take]; rfl)) ?_; (with_reducible refine (frame_Get.calls k3 _ _ x7_3 a0 ((x63_3) % 4294967296) t174 t175 true _ ?side1 ?side2 ?side3 A28.out).mono ?_); (case side1 => repeat (first | exact (Kd.Q_reads' HO_7.out).2.2 | (with_reducible refine Kd.C_alloc ?_ _) | (with_reducible refine Kd.C_drewN ?_ _) | (with_reducible refine Kd.C_drew ?_))); (case side2 => exact (Kd.Q_reads' HO_7.out).2.1); (case side3 => exact ⟨tbl_below HT.out (by repeat (first | (with_reducible first | exact HB.out | apply below_alloc | apply pw_below_drewN | apply below_drew1) | exact HB.out))⟩); rintro e w34 ⟨v177, rfl, ho0, hb⟩; refine ⟨_, rfl, ?_⟩; have n0_ := Aside0.mk (Kd.Q_elder' (by (with_reducible repeat (first | apply Kd.Q_alloc | apply Kd.Q_drewN | apply Kd.Q_drew)); exact HO_7.out) (Kd.R_base ho0) hb); have n1_ := Aside0.mk (Kd.R_lower (Kd.R_new' ho0 (Kd.Q_lt (by (with_reducible repeat (first | apply Kd.Q_alloc | apply Kd.Q_drewN | apply Kd.Q_drew)); exact HO_7.out))) (below_size (by repeat (first | (with_reducible first | exact HB.out | apply below_alloc | apply pw_below_drewN | apply below_drew1) | exact HB.out)))); have n2_ := Aside0.mk (below_step (by repeat (first | (with_reducible first | exact HB.out | apply below_alloc | apply pw_below_drewN | apply below_drew1) | exact HB.out)) hb); clear HO_7; clear HB; have HO_7 := n0_; have HO178 := n1_; have HB := n2_; clear n0_ n1_ n2_; (try clear hb); (try clear hb2); (try clear hk); (try clear hi); (try clear ho0); have hcv35 := own_string (P := Tryd.prog) Tryd.underlying22 Tryd.underlying5 Tryd.underlying9 (Kd.own_of_R HO178.out); have hcv36 := Kd.C_string (P := Tryd.prog) (A := A173_0) (c := c173_0) Tryd.underlying22 Tryd.underlying5 Tryd.underlying9 (Kd.C_below HR173_0.out HB.out)))
                                  go_ret
                                  exact ⟨by first | rfl | (simp [errW_none, errW_some] <;> rfl) | (simp [*, errW_none, errW_some] <;> rfl) | (simp only [IntWalk.i64_left]; rfl), by repeat (first | (with_reducible first | exact HB.out | apply below_alloc | apply pw_below_drewN | apply below_drew1) | exact HB.out)⟩
                                · rw [if_neg c32] at H
                                  have c32b0 : decide ((x7_3.length : Int) < t175) = false := decide_eq_false c32
                                  clear c32
                                  by_cases c37 : 0 ≤ t175
                                  · rw [if_pos c37] at H
                                    have c37b0 := eq_true c37
                                    have c37b1 : decide (0 ≤ t175) = true := decide_eq_true c37
                                    clear c37
                                    by_cases c38 : t175 ≤ (x7_3.length : Int)
                                    · rw [if_pos c38] at H
                                      have c38b0 := eq_true c38
                                      have c38b1 : decide (t175 ≤ (x7_3.length : Int)) = true := decide_eq_true c38
                                      clear c38
                                      obtain ⟨y179, hy179⟩ : ∃ y_ : List Int, y_ = (x7_3.drop (t175 : Int).toNat) := ⟨_, rfl⟩
                                      replace H : (vesperslaw06_FrameRow.l1 k3 a0 l1 l2 y179 l1 (l1.length : Int) (wrap64 (x63_3 + 1))) = some r := by first | (rw [hy179]; with_reducible exact H) | (have H2_ := (Option.bind_some _ _).symm.trans H; rw [hy179]; with_reducible exact H2_) | (have H2_ := (Option.bind_some _ _).symm.trans H; with_reducible exact H2_) | with_reducible exact H | (rw [hy179]; exact H) | exact H
                                      have Ny179 := Aside0.mk hy179
                                      clear hy179
                                      have H' := Aside0.mk H
                                      clear H
                                      have p173 : 0 ≤ (x63_3 : Int) := of_decide_eq_true (by first | (with_reducible assumption) | assumption)
                                      have q173 : x63_3 < (l1.length : Int) := of_decide_eq_true (by first | (with_reducible assumption) | assumption)
                                      obtain ⟨ad173, A173_0, c173_0, e173, hx173_0, hl173_0, hi173_0⟩ := at_L2 HR1.out x63_3 p173 q173
                                      cases e173
                                      replace hx173_0 := (HB.out.cell (World.block_lt_of_cell? w _ hx173_0)).trans hx173_0
                                      have HR173_0 := Aside0.mk hi173_0
                                      have HC173_0 := Aside0.mk hl173_0
                                      clear hi173_0 hl173_0
                                      replace p173 := eq_true p173
                                      replace q173 := eq_true q173
                                      obtain ⟨Ao39, co39, eo39, _⟩ := Kd.Q_slice HO_7.out
                                      subst eo39
                                      go_wp2_with (first | ((with_reducible refine gate_callee (f := 9) rfl ?_); refine goesL_ (some 73) rfl rfl Tryd.func9 (by kernel_rfl) rfl #[.slice Ao39 x7_3.length co39, .int .u32 a0, .int .u32 ((x63_3) % 4294967296)] rfl (by (try simp only [List.map_toArray, List.map_cons, List.map_nil]); first | done | rfl | (simp only [List.length_drop, List.length_take]; rfl)) ?_; (with_reducible refine (frame_Get.calls k3 _ _ x7_3 a0 ((x63_3) % 4294967296) t174 t175 true _ ?side1 ?side2 ?side3 A28.out).mono ?_); (case side1 => repeat (first | exact (Kd.Q_reads' HO_7.out).2.2 | (with_reducible refine Kd.C_alloc ?_ _) | (with_reducible refine Kd.C_drewN ?_ _) | (with_reducible refine Kd.C_drew ?_))); (case side2 => exact (Kd.Q_reads' HO_7.out).2.1); (case side3 => exact ⟨tbl_below HT.out (by repeat (first | (with_reducible first | exact HB.out | apply below_alloc | apply pw_below_drewN | apply below_drew1) | exact HB.out))⟩); rintro e w40 ⟨v177, rfl, ho0, hb⟩; refine ⟨_, rfl, ?_⟩; have n0_ := Aside0.mk (Kd.Q_elder' (by (with_reducible repeat (first | apply Kd.Q_alloc | apply Kd.Q_drewN | apply Kd.Q_drew)); exact HO_7.out) (Kd.R_base ho0) hb); have n1_ := Aside0.mk (Kd.R_lower (Kd.R_new' ho0 (Kd.Q_lt (by (with_reducible repeat (first | apply Kd.Q_alloc | apply Kd.Q_drewN | apply Kd.Q_drew)); exact HO_7.out))) (below_size (by repeat (first | (with_reducible first | exact HB.out | apply below_alloc | apply pw_below_drewN | apply below_drew1) | exact HB.out)))); have n2_ := Aside0.mk (below_step (by repeat (first | (with_reducible first | exact HB.out | apply below_alloc | apply pw_below_drewN | apply below_drew1) | exact HB.out)) hb); clear HO_7; clear HB; have HO_7 := n0_; have HO178 := n1_; have HB := n2_; clear n0_ n1_ n2_; (try clear hb); (try clear hb2); (try clear hk); (try clear hi); (try clear ho0); have hcv41 := own_string (P := Tryd.prog) Tryd.underlying22 Tryd.underlying5 Tryd.underlying9 (Kd.own_of_R HO178.out); have hcv42 := Kd.C_string (P := Tryd.prog) (A := A173_0) (c := c173_0) Tryd.underlying22 Tryd.underlying5 Tryd.underlying9 (Kd.C_below HR173_0.out HB.out); have n_ := Aside0.mk (Kd.Q_mono (ok' := (fun k_ => some k_ ≠ (v177 : Value).ownBlock)) HO_7.out (fun k_ hk => hk.2)); clear HO_7; have HO_7 := n_; clear n_; have q43 : (t175 : Int) ≤ ((x7_3.length : Int) : Int) := of_decide_eq_true (by first | (with_reducible assumption) | assumption); obtain ⟨i043, hi043, _, hsz43, _⟩ := info_parts info5; have hcut43 := cut_from (P := Tryd.prog) 22 5 .i64 Tryd.underlying22 hi043 1 hsz43 Ao39 x7_3.length co39 t175 (of_decide_eq_true (by first | (with_reducible assumption) | assumption)) q43; have hr43 := Kd.Q_drop (k := (t175 : Int).toNat) HO_7.out (by omega); obtain ⟨A43, hA43⟩ : ∃ A1, A1 = (if co39 = (t175 : Int).toNat then Ao39 else (Ao39 : Option Addr).map (·.add ((t175 : Int).toNat * 1))) := ⟨_, rfl⟩; obtain ⟨c43, hc43⟩ : ∃ c1, c1 = co39 - (t175 : Int).toNat := ⟨_, rfl⟩; have hy43 : y179.length = x7_3.length - (t175 : Int).toNat := (by rw [Ny179.out, List.length_drop]); rw [← Ny179.out] at hr43; rw [← hy43, ← hA43, ← hc43] at hcut43; replace hr43 : Kd.Q (Kd.int .u8) 5 w40 w.heap.size (fun k_ => some k_ ≠ (v177 : Value).ownBlock) (.slice A43 y179.length c43) y179 := (by rw [hA43, hc43, hy43]; exact hr43); have HE43 : Aside0 ((Value.slice A43 y179.length c43).ownBlock = (.slice Ao39 x7_3.length co39 : Value).ownBlock) := ⟨by rw [hA43]; split <;> (cases (Ao39 : Option Addr) <;> first | rfl | (simp only [Option.map_some, Value.ownBlock, Addr.add]; split <;> rfl))⟩; clear hy43 hi043 hsz43 HO_7 hA43 hc43; have HO181 := Aside0.mk hr43; clear hr43; replace q43 := eq_true q43; have n_ := Aside0.mk (Kd.R_mono (ok' := fun k_ => (True ∧ some k_ ≠ (.slice A43 y179.length c43 : Value).ownBlock)) HO178.out (fun k_ hk => ⟨trivial, (by rw [HE43.out]; exact hk.2)⟩)); clear HO178; have HO178 := n_; clear n_))
                                      go_roundg k3
                                      case measure => have := HJ3.out; have := HK2.out; have := HK3.out; omega
                                      case rel => exact ⟨(y179), (wrap64 (x63_3 + 1)), (by first | rfl | (simp; done) | (simp [*]; done)), H', ⟨by have := HJ3.out; have := HK2.out; have := HK3.out; omega⟩, ⟨by (with_reducible repeat (first | apply Kd.Q_alloc | apply Kd.Q_drewN | apply Kd.Q_drew)); exact Kd.Q_mono HO181.out (fun _ hk => trivial)⟩, ⟨by repeat (first | (with_reducible first | exact HB.out | apply below_alloc | apply pw_below_drewN | apply below_drew1) | exact HB.out)⟩⟩
                                    · rw [if_neg c38] at H
                                      exact absurd H (by simp)
                                  · rw [if_neg c37] at H
                                    exact absurd H (by simp)
                              · rw [if_neg c31] at H
                                have c31b0 : (t175 == (wrap64 (((rd_L2 l1 x63_3).length : Int) + 16))) = false := beq_eq_false_iff_ne.mpr c31
                                have c31b1 : (t175 != (wrap64 (((rd_L2 l1 x63_3).length : Int) + 16))) = true := bne_iff_ne.mpr c31
                                obtain rfl := Option.some.inj H
                                have p173 : 0 ≤ (x63_3 : Int) := of_decide_eq_true (by first | (with_reducible assumption) | assumption)
                                have q173 : x63_3 < (l1.length : Int) := of_decide_eq_true (by first | (with_reducible assumption) | assumption)
                                obtain ⟨ad173, A173_0, c173_0, e173, hx173_0, hl173_0, hi173_0⟩ := at_L2 HR1.out x63_3 p173 q173
                                cases e173
                                replace hx173_0 := (HB.out.cell (World.block_lt_of_cell? w _ hx173_0)).trans hx173_0
                                have HR173_0 := Aside0.mk hi173_0
                                have HC173_0 := Aside0.mk hl173_0
                                clear hi173_0 hl173_0
                                replace p173 := eq_true p173
                                replace q173 := eq_true q173
                                obtain ⟨Ao44, co44, eo44, _⟩ := Kd.Q_slice HO_7.out
                                subst eo44
                                go_wp2_with (first | ((with_reducible refine gate_callee (f := 9) rfl ?_); refine goesL_ (some 73) rfl rfl Tryd.func9 (by kernel_rfl) rfl #[.slice Ao44 x7_3.length co44, .int .u32 a0, .int .u32 ((x63_3) % 4294967296)] rfl (by (try simp only [List.map_toArray, List.map_cons, List.map_nil]); first | done | rfl | (simp only [List.length_drop, List.length_take]; rfl)) ?_; (with_reducible refine (frame_Get.calls k3 _ _ x7_3 a0 ((x63_3) % 4294967296) t174 t175 true _ ?side1 ?side2 ?side3 A28.out).mono ?_); (case side1 => repeat (first | exact (Kd.Q_reads' HO_7.out).2.2 | (with_reducible refine Kd.C_alloc ?_ _) | (with_reducible refine Kd.C_drewN ?_ _) | (with_reducible refine Kd.C_drew ?_))); (case side2 => exact (Kd.Q_reads' HO_7.out).2.1); (case side3 => exact ⟨tbl_below HT.out (by repeat (first | (with_reducible first | exact HB.out | apply below_alloc | apply pw_below_drewN | apply below_drew1) | exact HB.out))⟩); rintro e w45 ⟨v177, rfl, ho0, hb⟩; refine ⟨_, rfl, ?_⟩; have n0_ := Aside0.mk (Kd.Q_elder' (by (with_reducible repeat (first | apply Kd.Q_alloc | apply Kd.Q_drewN | apply Kd.Q_drew)); exact HO_7.out) (Kd.R_base ho0) hb); have n1_ := Aside0.mk (Kd.R_lower (Kd.R_new' ho0 (Kd.Q_lt (by (with_reducible repeat (first | apply Kd.Q_alloc | apply Kd.Q_drewN | apply Kd.Q_drew)); exact HO_7.out))) (below_size (by repeat (first | (with_reducible first | exact HB.out | apply below_alloc | apply pw_below_drewN | apply below_drew1) | exact HB.out)))); have n2_ := Aside0.mk (below_step (by repeat (first | (with_reducible first | exact HB.out | apply below_alloc | apply pw_below_drewN | apply below_drew1) | exact HB.out)) hb); clear HO_7; clear HB; have HO_7 := n0_; have HO178 := n1_; have HB := n2_; clear n0_ n1_ n2_; (try clear hb); (try clear hb2); (try clear hk); (try clear hi); (try clear ho0); have hcv46 := own_string (P := Tryd.prog) Tryd.underlying22 Tryd.underlying5 Tryd.underlying9 (Kd.own_of_R HO178.out); have hcv47 := Kd.C_string (P := Tryd.prog) (A := A173_0) (c := c173_0) Tryd.underlying22 Tryd.underlying5 Tryd.underlying9 (Kd.C_below HR173_0.out HB.out)))
                                go_ret
                                exact ⟨by first | rfl | (simp [errW_none, errW_some] <;> rfl) | (simp [*, errW_none, errW_some] <;> rfl) | (simp only [IntWalk.i64_left]; rfl), by repeat (first | (with_reducible first | exact HB.out | apply below_alloc | apply pw_below_drewN | apply below_drew1) | exact HB.out)⟩
                            · rw [if_neg c30] at H
                              have c30b0 : ((strOfNums t174).toList == (strOfNums (rd_L2 l1 x63_3)).toList) = false := beq_eq_false_iff_ne.mpr c30
                              have c30b1 : ((strOfNums t174).toList != (strOfNums (rd_L2 l1 x63_3)).toList) = true := bne_iff_ne.mpr c30
                              obtain rfl := Option.some.inj H
                              have p173 : 0 ≤ (x63_3 : Int) := of_decide_eq_true (by first | (with_reducible assumption) | assumption)
                              have q173 : x63_3 < (l1.length : Int) := of_decide_eq_true (by first | (with_reducible assumption) | assumption)
                              obtain ⟨ad173, A173_0, c173_0, e173, hx173_0, hl173_0, hi173_0⟩ := at_L2 HR1.out x63_3 p173 q173
                              cases e173
                              replace hx173_0 := (HB.out.cell (World.block_lt_of_cell? w _ hx173_0)).trans hx173_0
                              have HR173_0 := Aside0.mk hi173_0
                              have HC173_0 := Aside0.mk hl173_0
                              clear hi173_0 hl173_0
                              replace p173 := eq_true p173
                              replace q173 := eq_true q173
                              obtain ⟨Ao48, co48, eo48, _⟩ := Kd.Q_slice HO_7.out
                              subst eo48
                              go_wp2_with (first | ((with_reducible refine gate_callee (f := 9) rfl ?_); refine goesL_ (some 73) rfl rfl Tryd.func9 (by kernel_rfl) rfl #[.slice Ao48 x7_3.length co48, .int .u32 a0, .int .u32 ((x63_3) % 4294967296)] rfl (by (try simp only [List.map_toArray, List.map_cons, List.map_nil]); first | done | rfl | (simp only [List.length_drop, List.length_take]; rfl)) ?_; (with_reducible refine (frame_Get.calls k3 _ _ x7_3 a0 ((x63_3) % 4294967296) t174 t175 true _ ?side1 ?side2 ?side3 A28.out).mono ?_); (case side1 => repeat (first | exact (Kd.Q_reads' HO_7.out).2.2 | (with_reducible refine Kd.C_alloc ?_ _) | (with_reducible refine Kd.C_drewN ?_ _) | (with_reducible refine Kd.C_drew ?_))); (case side2 => exact (Kd.Q_reads' HO_7.out).2.1); (case side3 => exact ⟨tbl_below HT.out (by repeat (first | (with_reducible first | exact HB.out | apply below_alloc | apply pw_below_drewN | apply below_drew1) | exact HB.out))⟩); rintro e w49 ⟨v177, rfl, ho0, hb⟩; refine ⟨_, rfl, ?_⟩; have n0_ := Aside0.mk (Kd.Q_elder' (by (with_reducible repeat (first | apply Kd.Q_alloc | apply Kd.Q_drewN | apply Kd.Q_drew)); exact HO_7.out) (Kd.R_base ho0) hb); have n1_ := Aside0.mk (Kd.R_lower (Kd.R_new' ho0 (Kd.Q_lt (by (with_reducible repeat (first | apply Kd.Q_alloc | apply Kd.Q_drewN | apply Kd.Q_drew)); exact HO_7.out))) (below_size (by repeat (first | (with_reducible first | exact HB.out | apply below_alloc | apply pw_below_drewN | apply below_drew1) | exact HB.out)))); have n2_ := Aside0.mk (below_step (by repeat (first | (with_reducible first | exact HB.out | apply below_alloc | apply pw_below_drewN | apply below_drew1) | exact HB.out)) hb); clear HO_7; clear HB; have HO_7 := n0_; have HO178 := n1_; have HB := n2_; clear n0_ n1_ n2_; (try clear hb); (try clear hb2); (try clear hk); (try clear hi); (try clear ho0); have hcv50 := own_string (P := Tryd.prog) Tryd.underlying22 Tryd.underlying5 Tryd.underlying9 (Kd.own_of_R HO178.out); have hcv51 := Kd.C_string (P := Tryd.prog) (A := A173_0) (c := c173_0) Tryd.underlying22 Tryd.underlying5 Tryd.underlying9 (Kd.C_below HR173_0.out HB.out)))
                              go_ret
                              exact ⟨by first | rfl | (simp [errW_none, errW_some] <;> rfl) | (simp [*, errW_none, errW_some] <;> rfl) | (simp only [IntWalk.i64_left]; rfl), by repeat (first | (with_reducible first | exact HB.out | apply below_alloc | apply pw_below_drewN | apply below_drew1) | exact HB.out)⟩
                          · replace c29 := Bool.eq_false_iff.mpr c29
                            subst c29
                            have H1 : (some false) = some r := by rw [if_neg (show ¬ (false = true) by decide)] at H; exact H
                            clear H
                            have H := H1
                            clear H1
                            obtain rfl := Option.some.inj H
                            have p173 : 0 ≤ (x63_3 : Int) := of_decide_eq_true (by first | (with_reducible assumption) | assumption)
                            have q173 : x63_3 < (l1.length : Int) := of_decide_eq_true (by first | (with_reducible assumption) | assumption)
                            obtain ⟨ad173, A173_0, c173_0, e173, hx173_0, hl173_0, hi173_0⟩ := at_L2 HR1.out x63_3 p173 q173
                            cases e173
                            replace hx173_0 := (HB.out.cell (World.block_lt_of_cell? w _ hx173_0)).trans hx173_0
                            have HR173_0 := Aside0.mk hi173_0
                            have HC173_0 := Aside0.mk hl173_0
                            clear hi173_0 hl173_0
                            replace p173 := eq_true p173
                            replace q173 := eq_true q173
                            obtain ⟨Ao52, co52, eo52, _⟩ := Kd.Q_slice HO_7.out
                            subst eo52
                            go_wp2_with (first | ((with_reducible refine gate_callee (f := 9) rfl ?_); refine goesL_ (some 73) rfl rfl Tryd.func9 (by kernel_rfl) rfl #[.slice Ao52 x7_3.length co52, .int .u32 a0, .int .u32 ((x63_3) % 4294967296)] rfl (by (try simp only [List.map_toArray, List.map_cons, List.map_nil]); first | done | rfl | (simp only [List.length_drop, List.length_take]; rfl)) ?_; (with_reducible refine (frame_Get.calls k3 _ _ x7_3 a0 ((x63_3) % 4294967296) t174 t175 false _ ?side1 ?side2 ?side3 A28.out).mono ?_); (case side1 => repeat (first | exact (Kd.Q_reads' HO_7.out).2.2 | (with_reducible refine Kd.C_alloc ?_ _) | (with_reducible refine Kd.C_drewN ?_ _) | (with_reducible refine Kd.C_drew ?_))); (case side2 => exact (Kd.Q_reads' HO_7.out).2.1); (case side3 => exact ⟨tbl_below HT.out (by repeat (first | (with_reducible first | exact HB.out | apply below_alloc | apply pw_below_drewN | apply below_drew1) | exact HB.out))⟩); rintro e w53 ⟨v177, rfl, ho0, hb⟩; refine ⟨_, rfl, ?_⟩; have n0_ := Aside0.mk (Kd.Q_elder' (by (with_reducible repeat (first | apply Kd.Q_alloc | apply Kd.Q_drewN | apply Kd.Q_drew)); exact HO_7.out) (Kd.R_base ho0) hb); have n1_ := Aside0.mk (Kd.R_lower (Kd.R_new' ho0 (Kd.Q_lt (by (with_reducible repeat (first | apply Kd.Q_alloc | apply Kd.Q_drewN | apply Kd.Q_drew)); exact HO_7.out))) (below_size (by repeat (first | (with_reducible first | exact HB.out | apply below_alloc | apply pw_below_drewN | apply below_drew1) | exact HB.out)))); have n2_ := Aside0.mk (below_step (by repeat (first | (with_reducible first | exact HB.out | apply below_alloc | apply pw_below_drewN | apply below_drew1) | exact HB.out)) hb); clear HO_7; clear HB; have HO_7 := n0_; have HO178 := n1_; have HB := n2_; clear n0_ n1_ n2_; (try clear hb); (try clear hb2); (try clear hk); (try clear hi); (try clear ho0)))
                            go_ret
                            exact ⟨by first | rfl | (simp [errW_none, errW_some] <;> rfl) | (simp [*, errW_none, errW_some] <;> rfl) | (simp only [IntWalk.i64_left]; rfl), by repeat (first | (with_reducible first | exact HB.out | apply below_alloc | apply pw_below_drewN | apply below_drew1) | exact HB.out)⟩
                        · rw [if_neg c27] at H
                          exact absurd H (by simp)
                      · rw [if_neg c26] at H
                        exact absurd H (by simp)
                    · rw [if_neg c25] at H
                      have c25b0 : decide (x63_3 < (l1.length : Int)) = false := decide_eq_false c25
                      clear c25
                      replace H := Option.bind_eq_some_iff.mp H
                      obtain ⟨⟨t182, t183, t184⟩, A540, H⟩ := H
                      replace H : ((vesperslaw06_fixed.f k3).bind fun t187 => (if t187 = true then (if t184 = true then (some false) else (some ((x7_3.length : Int) == (l2.length : Int)))) else (some false))) = some r := H
                      have A54 := Aside0.mk A540
                      clear A540
                      replace H := Option.bind_eq_some_iff.mp H
                      obtain ⟨t187, A550, H⟩ := H
                      replace H : (if t187 = true then (if t184 = true then (some false) else (some ((x7_3.length : Int) == (l2.length : Int)))) else (some false)) = some r := H
                      have A55 := Aside0.mk A550
                      clear A550
                      by_cases c56 : t187 = true
                      · subst c56
                        have H1 : (if t184 = true then (some false) else (some ((x7_3.length : Int) == (l2.length : Int)))) = some r := by rw [if_pos rfl] at H; exact H
                        clear H
                        have H := H1
                        clear H1
                        by_cases c57 : t184 = true
                        · subst c57
                          have H1 : (some false) = some r := by rw [if_pos rfl] at H; exact H
                          clear H
                          have H := H1
                          clear H1
                          obtain rfl := Option.some.inj H
                          obtain ⟨Ao58, co58, eo58, _⟩ := Kd.Q_slice HO_7.out
                          subst eo58
                          go_wp2_with (first | ((with_reducible refine gate_callee (f := 9) rfl ?_); refine goesL_ (some 109) rfl rfl Tryd.func9 (by kernel_rfl) rfl #[.slice Ao58 x7_3.length co58, .int .u32 a0, .int .u32 (((l1.length : Int)) % 4294967296)] rfl (by (try simp only [List.map_toArray, List.map_cons, List.map_nil]); first | done | rfl | (simp only [List.length_drop, List.length_take]; rfl)) ?_; (with_reducible refine (frame_Get.calls k3 _ _ x7_3 a0 (((l1.length : Int)) % 4294967296) t182 t183 true _ ?side1 ?side2 ?side3 A54.out).mono ?_); (case side1 => repeat (first | exact (Kd.Q_reads' HO_7.out).2.2 | (with_reducible refine Kd.C_alloc ?_ _) | (with_reducible refine Kd.C_drewN ?_ _) | (with_reducible refine Kd.C_drew ?_))); (case side2 => exact (Kd.Q_reads' HO_7.out).2.1); (case side3 => exact ⟨tbl_below HT.out (by repeat (first | (with_reducible first | exact HB.out | apply below_alloc | apply pw_below_drewN | apply below_drew1) | exact HB.out))⟩); rintro e w59 ⟨v185, rfl, ho0, hb⟩; refine ⟨_, rfl, ?_⟩; have n0_ := Aside0.mk (Kd.Q_elder' (by (with_reducible repeat (first | apply Kd.Q_alloc | apply Kd.Q_drewN | apply Kd.Q_drew)); exact HO_7.out) (Kd.R_base ho0) hb); have n1_ := Aside0.mk (Kd.R_lower (Kd.R_new' ho0 (Kd.Q_lt (by (with_reducible repeat (first | apply Kd.Q_alloc | apply Kd.Q_drewN | apply Kd.Q_drew)); exact HO_7.out))) (below_size (by repeat (first | (with_reducible first | exact HB.out | apply below_alloc | apply pw_below_drewN | apply below_drew1) | exact HB.out)))); have n2_ := Aside0.mk (below_step (by repeat (first | (with_reducible first | exact HB.out | apply below_alloc | apply pw_below_drewN | apply below_drew1) | exact HB.out)) hb); clear HO_7; clear HB; have HO_7 := n0_; have HO186 := n1_; have HB := n2_; clear n0_ n1_ n2_; (try clear hb); (try clear hb2); (try clear hk); (try clear hi); (try clear ho0)) | ((with_reducible refine gate_callee (f := 8) rfl ?_); refine goesL_ (some 113) rfl rfl Tryd.func8 (by kernel_rfl) rfl #[] rfl (by (try simp only [List.map_toArray, List.map_cons, List.map_nil]); first | done | rfl | (simp only [List.length_drop, List.length_take]; rfl)) ?_; (with_reducible refine (vesperslaw06_fixed.calls k3  true _ ?side1 A55.out).mono ?_); (case side1 => exact ⟨tbl_below HT.out (by repeat (first | (with_reducible first | exact HB.out | apply below_alloc | apply pw_below_drewN | apply below_drew1) | exact HB.out))⟩); rintro e w60 ⟨rfl, hb⟩; refine ⟨_, rfl, ?_⟩; have n0_ := Aside0.mk (Kd.Q_below (by (with_reducible repeat (first | apply Kd.Q_alloc | apply Kd.Q_drewN | apply Kd.Q_drew)); exact HO_7.out) hb); have n1_ := Aside0.mk (Kd.R_below (by (with_reducible repeat (first | apply Kd.R_alloc | apply Kd.R_drewN | apply Kd.R_drew)); exact HO186.out) hb); have n2_ := Aside0.mk (below_step (by repeat (first | (with_reducible first | exact HB.out | apply below_alloc | apply pw_below_drewN | apply below_drew1) | exact HB.out)) hb); clear HO_7; clear HO186; clear HB; have HO_7 := n0_; have HO186 := n1_; have HB := n2_; clear n0_ n1_ n2_; (try clear hb); (try clear hb2); (try clear hk); (try clear hi)))
                          go_ret
                          exact ⟨by first | rfl | (simp [errW_none, errW_some] <;> rfl) | (simp [*, errW_none, errW_some] <;> rfl) | (simp only [IntWalk.i64_left]; rfl), by repeat (first | (with_reducible first | exact HB.out | apply below_alloc | apply pw_below_drewN | apply below_drew1) | exact HB.out)⟩
                        · replace c57 := Bool.eq_false_iff.mpr c57
                          subst c57
                          have H1 : (some ((x7_3.length : Int) == (l2.length : Int))) = some r := by rw [if_neg (show ¬ (false = true) by decide)] at H; exact H
                          clear H
                          have H := H1
                          clear H1
                          obtain rfl := Option.some.inj H
                          obtain ⟨Ao61, co61, eo61, _⟩ := Kd.Q_slice HO_7.out
                          subst eo61
                          go_wp2_with (first | ((with_reducible refine gate_callee (f := 9) rfl ?_); refine goesL_ (some 109) rfl rfl Tryd.func9 (by kernel_rfl) rfl #[.slice Ao61 x7_3.length co61, .int .u32 a0, .int .u32 (((l1.length : Int)) % 4294967296)] rfl (by (try simp only [List.map_toArray, List.map_cons, List.map_nil]); first | done | rfl | (simp only [List.length_drop, List.length_take]; rfl)) ?_; (with_reducible refine (frame_Get.calls k3 _ _ x7_3 a0 (((l1.length : Int)) % 4294967296) t182 t183 false _ ?side1 ?side2 ?side3 A54.out).mono ?_); (case side1 => repeat (first | exact (Kd.Q_reads' HO_7.out).2.2 | (with_reducible refine Kd.C_alloc ?_ _) | (with_reducible refine Kd.C_drewN ?_ _) | (with_reducible refine Kd.C_drew ?_))); (case side2 => exact (Kd.Q_reads' HO_7.out).2.1); (case side3 => exact ⟨tbl_below HT.out (by repeat (first | (with_reducible first | exact HB.out | apply below_alloc | apply pw_below_drewN | apply below_drew1) | exact HB.out))⟩); rintro e w62 ⟨v185, rfl, ho0, hb⟩; refine ⟨_, rfl, ?_⟩; have n0_ := Aside0.mk (Kd.Q_elder' (by (with_reducible repeat (first | apply Kd.Q_alloc | apply Kd.Q_drewN | apply Kd.Q_drew)); exact HO_7.out) (Kd.R_base ho0) hb); have n1_ := Aside0.mk (Kd.R_lower (Kd.R_new' ho0 (Kd.Q_lt (by (with_reducible repeat (first | apply Kd.Q_alloc | apply Kd.Q_drewN | apply Kd.Q_drew)); exact HO_7.out))) (below_size (by repeat (first | (with_reducible first | exact HB.out | apply below_alloc | apply pw_below_drewN | apply below_drew1) | exact HB.out)))); have n2_ := Aside0.mk (below_step (by repeat (first | (with_reducible first | exact HB.out | apply below_alloc | apply pw_below_drewN | apply below_drew1) | exact HB.out)) hb); clear HO_7; clear HB; have HO_7 := n0_; have HO186 := n1_; have HB := n2_; clear n0_ n1_ n2_; (try clear hb); (try clear hb2); (try clear hk); (try clear hi); (try clear ho0)) | ((with_reducible refine gate_callee (f := 8) rfl ?_); refine goesL_ (some 113) rfl rfl Tryd.func8 (by kernel_rfl) rfl #[] rfl (by (try simp only [List.map_toArray, List.map_cons, List.map_nil]); first | done | rfl | (simp only [List.length_drop, List.length_take]; rfl)) ?_; (with_reducible refine (vesperslaw06_fixed.calls k3  true _ ?side1 A55.out).mono ?_); (case side1 => exact ⟨tbl_below HT.out (by repeat (first | (with_reducible first | exact HB.out | apply below_alloc | apply pw_below_drewN | apply below_drew1) | exact HB.out))⟩); rintro e w63 ⟨rfl, hb⟩; refine ⟨_, rfl, ?_⟩; have n0_ := Aside0.mk (Kd.Q_below (by (with_reducible repeat (first | apply Kd.Q_alloc | apply Kd.Q_drewN | apply Kd.Q_drew)); exact HO_7.out) hb); have n1_ := Aside0.mk (Kd.R_below (by (with_reducible repeat (first | apply Kd.R_alloc | apply Kd.R_drewN | apply Kd.R_drew)); exact HO186.out) hb); have n2_ := Aside0.mk (below_step (by repeat (first | (with_reducible first | exact HB.out | apply below_alloc | apply pw_below_drewN | apply below_drew1) | exact HB.out)) hb); clear HO_7; clear HO186; clear HB; have HO_7 := n0_; have HO186 := n1_; have HB := n2_; clear n0_ n1_ n2_; (try clear hb); (try clear hb2); (try clear hk); (try clear hi)))
                          go_ret
                          exact ⟨by first | rfl | (simp [errW_none, errW_some] <;> rfl) | (simp [*, errW_none, errW_some] <;> rfl) | (simp only [IntWalk.i64_left]; rfl), by repeat (first | (with_reducible first | exact HB.out | apply below_alloc | apply pw_below_drewN | apply below_drew1) | exact HB.out)⟩
                      · replace c56 := Bool.eq_false_iff.mpr c56
                        subst c56
                        have H1 : (some false) = some r := by rw [if_neg (show ¬ (false = true) by decide)] at H; exact H
                        clear H
                        have H := H1
                        clear H1
                        obtain rfl := Option.some.inj H
                        obtain ⟨Ao64, co64, eo64, _⟩ := Kd.Q_slice HO_7.out
                        subst eo64
                        go_wp2_with (first | ((with_reducible refine gate_callee (f := 9) rfl ?_); refine goesL_ (some 109) rfl rfl Tryd.func9 (by kernel_rfl) rfl #[.slice Ao64 x7_3.length co64, .int .u32 a0, .int .u32 (((l1.length : Int)) % 4294967296)] rfl (by (try simp only [List.map_toArray, List.map_cons, List.map_nil]); first | done | rfl | (simp only [List.length_drop, List.length_take]; rfl)) ?_; (with_reducible refine (frame_Get.calls k3 _ _ x7_3 a0 (((l1.length : Int)) % 4294967296) t182 t183 t184 _ ?side1 ?side2 ?side3 A54.out).mono ?_); (case side1 => repeat (first | exact (Kd.Q_reads' HO_7.out).2.2 | (with_reducible refine Kd.C_alloc ?_ _) | (with_reducible refine Kd.C_drewN ?_ _) | (with_reducible refine Kd.C_drew ?_))); (case side2 => exact (Kd.Q_reads' HO_7.out).2.1); (case side3 => exact ⟨tbl_below HT.out (by repeat (first | (with_reducible first | exact HB.out | apply below_alloc | apply pw_below_drewN | apply below_drew1) | exact HB.out))⟩); rintro e w65 ⟨v185, rfl, ho0, hb⟩; refine ⟨_, rfl, ?_⟩; have n0_ := Aside0.mk (Kd.Q_elder' (by (with_reducible repeat (first | apply Kd.Q_alloc | apply Kd.Q_drewN | apply Kd.Q_drew)); exact HO_7.out) (Kd.R_base ho0) hb); have n1_ := Aside0.mk (Kd.R_lower (Kd.R_new' ho0 (Kd.Q_lt (by (with_reducible repeat (first | apply Kd.Q_alloc | apply Kd.Q_drewN | apply Kd.Q_drew)); exact HO_7.out))) (below_size (by repeat (first | (with_reducible first | exact HB.out | apply below_alloc | apply pw_below_drewN | apply below_drew1) | exact HB.out)))); have n2_ := Aside0.mk (below_step (by repeat (first | (with_reducible first | exact HB.out | apply below_alloc | apply pw_below_drewN | apply below_drew1) | exact HB.out)) hb); clear HO_7; clear HB; have HO_7 := n0_; have HO186 := n1_; have HB := n2_; clear n0_ n1_ n2_; (try clear hb); (try clear hb2); (try clear hk); (try clear hi); (try clear ho0)) | ((with_reducible refine gate_callee (f := 8) rfl ?_); refine goesL_ (some 113) rfl rfl Tryd.func8 (by kernel_rfl) rfl #[] rfl (by (try simp only [List.map_toArray, List.map_cons, List.map_nil]); first | done | rfl | (simp only [List.length_drop, List.length_take]; rfl)) ?_; (with_reducible refine (vesperslaw06_fixed.calls k3  false _ ?side1 A55.out).mono ?_); (case side1 => exact ⟨tbl_below HT.out (by repeat (first | (with_reducible first | exact HB.out | apply below_alloc | apply pw_below_drewN | apply below_drew1) | exact HB.out))⟩); rintro e w66 ⟨rfl, hb⟩; refine ⟨_, rfl, ?_⟩; have n0_ := Aside0.mk (Kd.Q_below (by (with_reducible repeat (first | apply Kd.Q_alloc | apply Kd.Q_drewN | apply Kd.Q_drew)); exact HO_7.out) hb); have n1_ := Aside0.mk (Kd.R_below (by (with_reducible repeat (first | apply Kd.R_alloc | apply Kd.R_drewN | apply Kd.R_drew)); exact HO186.out) hb); have n2_ := Aside0.mk (below_step (by repeat (first | (with_reducible first | exact HB.out | apply below_alloc | apply pw_below_drewN | apply below_drew1) | exact HB.out)) hb); clear HO_7; clear HO186; clear HB; have HO_7 := n0_; have HO186 := n1_; have HB := n2_; clear n0_ n1_ n2_; (try clear hb); (try clear hb2); (try clear hk); (try clear hi)))
                        go_ret
                        exact ⟨by first | rfl | (simp [errW_none, errW_some] <;> rfl) | (simp [*, errW_none, errW_some] <;> rfl) | (simp only [IntWalk.i64_left]; rfl), by repeat (first | (with_reducible first | exact HB.out | apply below_alloc | apply pw_below_drewN | apply below_drew1) | exact HB.out)⟩
              · rw [if_neg c23] at H
                exact absurd H (by simp)

end Go.Proofs.YtapdioaiimcehaaDoor.Rw
