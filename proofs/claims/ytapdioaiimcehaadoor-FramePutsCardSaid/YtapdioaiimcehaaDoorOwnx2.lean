-- own text: made by a program of this session out of the plain functions' print
import Derived.Test.YtapdioaiimcehaaDoorOwnx0
import Derived.Test.YtapdioaiimcehaaDoorOwnx1
namespace Go.Proofs.YtapdioaiimcehaaDoor.Own
open Go.RowKit Go.Proofs.YtapdioaiimcehaaDoorW.PrintWords Go.Proofs.YtapdioaiimcehaaDoorW.PrintLast Go.Proofs.YtapdioaiimcehaaDoorW.PrintMore
attribute [local go_sem] max2_int min2_int max_two min_two max_three min_three max_four min_four   -- for this text's walks alone
set_option linter.unusedVariables false
set_option linter.unusedSimpArgs false

/-! ### vespersref06_Put: function 13 -/
def vespersref06_Put.j0 : Nat → Int → Int → ByteArray → Bool → Option (ByteArray)
  | 0, _, _, _, _ => none
  | k + 1, x0, x1, x2, x14 => if x14 = true then (some (⟨#[]⟩ : ByteArray)) else ((vespersref06_Four.f (((x2.size : Int)) % 4294967296)).bind fun t141 => ((vespersref06_Four.f x0).bind fun t142 => (if t141.size + t142.size ≤ 9223372036854775807 then ((vespersref06_Four.f x1).bind fun t143 => (if (t141 ++ t142).size + t143.size ≤ 9223372036854775807 then (if ((t141 ++ t142) ++ t143).size + x2.size ≤ 9223372036854775807 then ((vespersref04_Sum.f k (((t141 ++ t142) ++ t143) ++ x2)).bind fun t144 => ((vespersref06_Four.f t144).bind fun t145 => (if (((t141 ++ t142) ++ t143) ++ x2).size + t145.size ≤ 9223372036854775807 then (some ((((t141 ++ t142) ++ t143) ++ x2) ++ t145)) else (none)))) else (none)) else (none))) else (none))))
def vespersref06_Put.f (k : Nat) (a0 : Int) (a1 : Int) (a2 : ByteArray) : Option (ByteArray) := if a0 = 0 then (vespersref06_Put.j0 k a0 a1 a2 true) else (vespersref06_Put.j0 k a0 a1 a2 (decide ((a2.size : Int) > 1048576)))
theorem vespersref06_Put.mono_l : ∀ k, (∀ y0 y1 y2 y3, LeO (vespersref06_Put.j0 k y0 y1 y2 y3) (vespersref06_Put.j0 (k + 1) y0 y1 y2 y3))
  | 0 => fun _ _ _ _ r h => by simp [vespersref06_Put.j0] at h
  | k + 1 => by
    have ih0 := vespersref06_Put.mono_l k
    · intro y0 y1 y2 y3
      unfold vespersref06_Put.j0
      repeat' first
      | (with_reducible exact ih0 _ _ _ _)
      | (with_reducible exact vespersref04_Sum.mono _ _)
      | (with_reducible exact LeO.refl _)
      | (with_reducible exact LeO.none _)
      | (with_reducible refine LeO.ite ?_ ?_)
      | (with_reducible refine LeO.bind ?_ (fun _ => ?_))
      | exact ih0 _ _ _ _
      | exact vespersref04_Sum.mono _ _
      | exact LeO.none _
      | refine LeO.ite ?_ ?_
      | refine LeO.bind ?_ (fun _ => ?_)
theorem vespersref06_Put.mono : ∀ a0 a1 a2 k, LeO (vespersref06_Put.f k a0 a1 a2) (vespersref06_Put.f (k + 1) a0 a1 a2) := by
  intro a0 a1 a2 k
  have ih0 := vespersref06_Put.mono_l k
  unfold vespersref06_Put.f
  repeat' first
      | (with_reducible exact ih0 _ _ _ _)
      | (with_reducible exact vespersref04_Sum.mono _ _)
      | (with_reducible exact LeO.refl _)
      | (with_reducible exact LeO.none _)
      | (with_reducible refine LeO.ite ?_ ?_)
      | (with_reducible refine LeO.bind ?_ (fun _ => ?_))
      | exact ih0 _ _ _ _
      | exact vespersref04_Sum.mono _ _
      | exact LeO.none _
      | refine LeO.ite ?_ ?_
      | refine LeO.bind ?_ (fun _ => ?_)
set_option maxHeartbeats 8000000 in
set_option maxRecDepth 100000 in
theorem vespersref06_Put.calls (k : Nat) (a0 : Int) (a1 : Int) (a2 : ByteArray) (r : ByteArray) (w : World) (h : vespersref06_Put.f k a0 a1 a2 = some r) :
    Calls Tryd.prog 13 #[.int .u32 a0, .int .u32 a1, .string a2] w fun e w' => e = .returned (.string r) ∧ Below w.heap.size w w' := by
  have HB := Aside0.mk (Below.refl w.heap.size w)
  have H : (if a0 = 0 then (vespersref06_Put.j0 k a0 a1 a2 true) else (vespersref06_Put.j0 k a0 a1 a2 (decide ((a2.size : Int) > 1048576)))) = some r := h
  clear h
  have HC4 := Aside0.mk H
  clear H
  go_enter Tryd.func13, Tryd.ntmps13
  go_upto_region 1 with (fail)
  go_cut [14] (fun v14 wc => ∃ (kq : Nat) (x14_3 : Bool), v14 = .bool x14_3 ∧ Aside0 (vespersref06_Put.j0 kq a0 a1 a2 x14_3 = some r) ∧ Aside0 (kq ≤ k) ∧ Aside0 (Below w.heap.size w wc))
  case first =>
    have H := HC4.out
    clear HC4
    by_cases c5 : a0 = 0
    · rw [if_pos c5] at H
      have c5b0 : (a0 == 0) = true := beq_iff_eq.mpr c5
      have c5b1 : (a0 != 0) = false := bne_eq_false_iff_eq.mpr c5
      clear c5
      (first | rw [c5b0] | (simp only [i64_w, i32_w]; rw [c5b0]) | skip)
      have H' := Aside0.mk H
      clear H
      go_wp2
      go_meet
      case rel => exact ⟨_, (true), (by first | rfl | (simp; done) | (simp [*]; done)), H', ⟨by first | omega | exact Nat.le_refl _⟩, ⟨by repeat (first | (with_reducible first | exact HB.out | apply below_alloc | apply pw_below_drewN | apply below_drew1) | exact HB.out)⟩⟩
    · rw [if_neg c5] at H
      have c5b0 : (a0 == 0) = false := beq_eq_false_iff_ne.mpr c5
      have c5b1 : (a0 != 0) = true := bne_iff_ne.mpr c5
      (first | rw [c5b0] | (simp only [i64_w, i32_w]; rw [c5b0]) | skip)
      have H' := Aside0.mk H
      clear H
      go_wp2
      go_meet
      case rel => exact ⟨_, (decide ((a2.size : Int) > 1048576)), (by first | rfl | (simp; done) | (simp [*]; done)), H', ⟨by first | omega | exact Nat.le_refl _⟩, ⟨by repeat (first | (with_reducible first | exact HB.out | apply below_alloc | apply pw_below_drewN | apply below_drew1) | exact HB.out)⟩⟩
  case rest =>
    clear HC4
    try clear c1
    try clear p2
    try clear c5
    try clear c5b0
    try clear c5b1
    obtain ⟨kq, x14_3, rfl, HA, HJ3, HB⟩ := hcut
    cases kq with
    | zero => exact absurd HA.out (by simp [vespersref06_Put.j0])
    | succ kj3 =>
      have H := HA.out
      clear HA
      simp only [vespersref06_Put.j0] at H
      by_cases c6 : x14_3 = true
      · subst c6
        have H1 : (some (⟨#[]⟩ : ByteArray)) = some r := by rw [if_pos rfl] at H; exact H
        clear H
        have H := H1
        clear H1
        obtain rfl := Option.some.inj H
        go_wp2
        go_ret
        exact ⟨by first | rfl | (simp [errW_none, errW_some] <;> rfl) | (simp [*, errW_none, errW_some] <;> rfl) | (simp only [IntWalk.i64_left]; rfl), by repeat (first | (with_reducible first | exact HB.out | apply below_alloc | apply pw_below_drewN | apply below_drew1) | exact HB.out)⟩
      · replace c6 := Bool.eq_false_iff.mpr c6
        subst c6
        have H1 : ((vespersref06_Four.f (((a2.size : Int)) % 4294967296)).bind fun t141 => ((vespersref06_Four.f a0).bind fun t142 => (if t141.size + t142.size ≤ 9223372036854775807 then ((vespersref06_Four.f a1).bind fun t143 => (if (t141 ++ t142).size + t143.size ≤ 9223372036854775807 then (if ((t141 ++ t142) ++ t143).size + a2.size ≤ 9223372036854775807 then ((vespersref04_Sum.f kj3 (((t141 ++ t142) ++ t143) ++ a2)).bind fun t144 => ((vespersref06_Four.f t144).bind fun t145 => (if (((t141 ++ t142) ++ t143) ++ a2).size + t145.size ≤ 9223372036854775807 then (some ((((t141 ++ t142) ++ t143) ++ a2) ++ t145)) else (none)))) else (none)) else (none))) else (none)))) = some r := by rw [if_neg (show ¬ (false = true) by decide)] at H; exact H
        clear H
        have H := H1
        clear H1
        replace H := Option.bind_eq_some_iff.mp H
        obtain ⟨t141, A70, H⟩ := H
        replace H : ((vespersref06_Four.f a0).bind fun t142 => (if t141.size + t142.size ≤ 9223372036854775807 then ((vespersref06_Four.f a1).bind fun t143 => (if (t141 ++ t142).size + t143.size ≤ 9223372036854775807 then (if ((t141 ++ t142) ++ t143).size + a2.size ≤ 9223372036854775807 then ((vespersref04_Sum.f kj3 (((t141 ++ t142) ++ t143) ++ a2)).bind fun t144 => ((vespersref06_Four.f t144).bind fun t145 => (if (((t141 ++ t142) ++ t143) ++ a2).size + t145.size ≤ 9223372036854775807 then (some ((((t141 ++ t142) ++ t143) ++ a2) ++ t145)) else (none)))) else (none)) else (none))) else (none))) = some r := H
        have A7 := Aside0.mk A70
        clear A70
        replace H := Option.bind_eq_some_iff.mp H
        obtain ⟨t142, A80, H⟩ := H
        replace H : (if t141.size + t142.size ≤ 9223372036854775807 then ((vespersref06_Four.f a1).bind fun t143 => (if (t141 ++ t142).size + t143.size ≤ 9223372036854775807 then (if ((t141 ++ t142) ++ t143).size + a2.size ≤ 9223372036854775807 then ((vespersref04_Sum.f kj3 (((t141 ++ t142) ++ t143) ++ a2)).bind fun t144 => ((vespersref06_Four.f t144).bind fun t145 => (if (((t141 ++ t142) ++ t143) ++ a2).size + t145.size ≤ 9223372036854775807 then (some ((((t141 ++ t142) ++ t143) ++ a2) ++ t145)) else (none)))) else (none)) else (none))) else (none)) = some r := H
        have A8 := Aside0.mk A80
        clear A80
        by_cases c9 : t141.size + t142.size ≤ 9223372036854775807
        · rw [if_pos c9] at H
          have c9b0 := eq_true c9
          have c9b1 : decide (t141.size + t142.size ≤ 9223372036854775807) = true := decide_eq_true c9
          try have c9b2 : (9223372036854775807 < t141.size + t142.size) = False := eq_false (Nat.not_lt.2 c9)
          replace H := Option.bind_eq_some_iff.mp H
          obtain ⟨t143, A100, H⟩ := H
          replace H : (if (t141 ++ t142).size + t143.size ≤ 9223372036854775807 then (if ((t141 ++ t142) ++ t143).size + a2.size ≤ 9223372036854775807 then ((vespersref04_Sum.f kj3 (((t141 ++ t142) ++ t143) ++ a2)).bind fun t144 => ((vespersref06_Four.f t144).bind fun t145 => (if (((t141 ++ t142) ++ t143) ++ a2).size + t145.size ≤ 9223372036854775807 then (some ((((t141 ++ t142) ++ t143) ++ a2) ++ t145)) else (none)))) else (none)) else (none)) = some r := H
          have A10 := Aside0.mk A100
          clear A100
          by_cases c11 : (t141 ++ t142).size + t143.size ≤ 9223372036854775807
          · rw [if_pos c11] at H
            have c11b0 := eq_true c11
            have c11b1 : decide ((t141 ++ t142).size + t143.size ≤ 9223372036854775807) = true := decide_eq_true c11
            try have c11b2 : (9223372036854775807 < (t141 ++ t142).size + t143.size) = False := eq_false (Nat.not_lt.2 c11)
            (try (have c11b3 := c11b2; simp only [ByteArray.size_append] at c11b3))
            by_cases c12 : ((t141 ++ t142) ++ t143).size + a2.size ≤ 9223372036854775807
            · rw [if_pos c12] at H
              have c12b0 := eq_true c12
              have c12b1 : decide (((t141 ++ t142) ++ t143).size + a2.size ≤ 9223372036854775807) = true := decide_eq_true c12
              try have c12b2 : (9223372036854775807 < ((t141 ++ t142) ++ t143).size + a2.size) = False := eq_false (Nat.not_lt.2 c12)
              (try (have c12b3 := c12b2; simp only [ByteArray.size_append] at c12b3))
              replace H := Option.bind_eq_some_iff.mp H
              obtain ⟨t144, A130, H⟩ := H
              replace H : ((vespersref06_Four.f t144).bind fun t145 => (if (((t141 ++ t142) ++ t143) ++ a2).size + t145.size ≤ 9223372036854775807 then (some ((((t141 ++ t142) ++ t143) ++ a2) ++ t145)) else (none))) = some r := H
              have A13 := Aside0.mk A130
              clear A130
              replace H := Option.bind_eq_some_iff.mp H
              obtain ⟨t145, A140, H⟩ := H
              replace H : (if (((t141 ++ t142) ++ t143) ++ a2).size + t145.size ≤ 9223372036854775807 then (some ((((t141 ++ t142) ++ t143) ++ a2) ++ t145)) else (none)) = some r := H
              have A14 := Aside0.mk A140
              clear A140
              by_cases c15 : (((t141 ++ t142) ++ t143) ++ a2).size + t145.size ≤ 9223372036854775807
              · rw [if_pos c15] at H
                have c15b0 := eq_true c15
                have c15b1 : decide ((((t141 ++ t142) ++ t143) ++ a2).size + t145.size ≤ 9223372036854775807) = true := decide_eq_true c15
                try have c15b2 : (9223372036854775807 < (((t141 ++ t142) ++ t143) ++ a2).size + t145.size) = False := eq_false (Nat.not_lt.2 c15)
                (try (have c15b3 := c15b2; simp only [ByteArray.size_append] at c15b3))
                obtain rfl := Option.some.inj H
                go_wp2_with (first | ((with_reducible refine gate_callee (f := 18) rfl ?_); refine goesL_ (some 18) rfl rfl Tryd.func18 (by kernel_rfl) rfl #[.int .u32 (((a2.size : Int)) % 4294967296)] rfl (by (try simp only [List.map_toArray, List.map_cons, List.map_nil]); first | done | rfl | (simp only [List.length_drop, List.length_take]; rfl)) ?_; (with_reducible refine (vespersref06_Four.calls (((a2.size : Int)) % 4294967296) t141 _ A7.out).mono ?_); rintro e w16 ⟨rfl, hb⟩; refine ⟨_, rfl, ?_⟩; have n0_ := Aside0.mk (below_step (by repeat (first | (with_reducible first | exact HB.out | apply below_alloc | apply pw_below_drewN | apply below_drew1) | exact HB.out)) hb); clear HB; have HB := n0_; clear n0_; (try clear hb); (try clear hb2); (try clear hk); (try clear hi)) | ((with_reducible refine gate_callee (f := 18) rfl ?_); refine goesL_ (some 20) rfl rfl Tryd.func18 (by kernel_rfl) rfl #[.int .u32 a0] rfl (by (try simp only [List.map_toArray, List.map_cons, List.map_nil]); first | done | rfl | (simp only [List.length_drop, List.length_take]; rfl)) ?_; (with_reducible refine (vespersref06_Four.calls a0 t142 _ A8.out).mono ?_); rintro e w17 ⟨rfl, hb⟩; refine ⟨_, rfl, ?_⟩; have n0_ := Aside0.mk (below_step (by repeat (first | (with_reducible first | exact HB.out | apply below_alloc | apply pw_below_drewN | apply below_drew1) | exact HB.out)) hb); clear HB; have HB := n0_; clear n0_; (try clear hb); (try clear hb2); (try clear hk); (try clear hi)) | ((with_reducible refine gate_callee (f := 18) rfl ?_); refine goesL_ (some 23) rfl rfl Tryd.func18 (by kernel_rfl) rfl #[.int .u32 a1] rfl (by (try simp only [List.map_toArray, List.map_cons, List.map_nil]); first | done | rfl | (simp only [List.length_drop, List.length_take]; rfl)) ?_; (with_reducible refine (vespersref06_Four.calls a1 t143 _ A10.out).mono ?_); rintro e w18 ⟨rfl, hb⟩; refine ⟨_, rfl, ?_⟩; have n0_ := Aside0.mk (below_step (by repeat (first | (with_reducible first | exact HB.out | apply below_alloc | apply pw_below_drewN | apply below_drew1) | exact HB.out)) hb); clear HB; have HB := n0_; clear n0_; (try clear hb); (try clear hb2); (try clear hk); (try clear hi)) | ((with_reducible refine gate_callee (f := 19) rfl ?_); refine goesL_ (some 29) rfl rfl Tryd.func19 (by kernel_rfl) rfl #[.string (((t141 ++ t142) ++ t143) ++ a2)] rfl (by (try simp only [List.map_toArray, List.map_cons, List.map_nil]); first | done | rfl | (simp only [List.length_drop, List.length_take]; rfl)) ?_; (with_reducible refine (vespersref04_Sum.calls kj3 (((t141 ++ t142) ++ t143) ++ a2) t144 _ A13.out).mono ?_); rintro e w' ⟨rfl, ⟨nd, rfl⟩⟩; refine ⟨_, rfl, ?_⟩) | ((with_reducible refine gate_callee (f := 18) rfl ?_); refine goesL_ (some 30) rfl rfl Tryd.func18 (by kernel_rfl) rfl #[.int .u32 t144] rfl (by (try simp only [List.map_toArray, List.map_cons, List.map_nil]); first | done | rfl | (simp only [List.length_drop, List.length_take]; rfl)) ?_; (with_reducible refine (vespersref06_Four.calls t144 t145 _ A14.out).mono ?_); rintro e w19 ⟨rfl, hb⟩; refine ⟨_, rfl, ?_⟩; have n0_ := Aside0.mk (below_step (by repeat (first | (with_reducible first | exact HB.out | apply below_alloc | apply pw_below_drewN | apply below_drew1) | exact HB.out)) hb); clear HB; have HB := n0_; clear n0_; (try clear hb); (try clear hb2); (try clear hk); (try clear hi)))
                go_ret
                exact ⟨by first | rfl | (simp [errW_none, errW_some] <;> rfl) | (simp [*, errW_none, errW_some] <;> rfl) | (simp only [IntWalk.i64_left]; rfl), by repeat (first | (with_reducible first | exact HB.out | apply below_alloc | apply pw_below_drewN | apply below_drew1) | exact HB.out)⟩
              · rw [if_neg c15] at H
                exact absurd H (by simp)
            · rw [if_neg c12] at H
              exact absurd H (by simp)
          · rw [if_neg c11] at H
            exact absurd H (by simp)
        · rw [if_neg c9] at H
          exact absurd H (by simp)

/-! ### vespersref06_Get: function 10 -/
mutual
def vespersref06_Get.j0 : Nat → ByteArray → Int → Int → Bool → Option (ByteArray × Int)
  | 0, _, _, _, _ => none
  | k + 1, x0, x1, x2, x16 => if x16 = true then (some ((⟨#[]⟩ : ByteArray), (-1))) else (if 0 < (x0.size : Int) then (if 1 < (x0.size : Int) then (if 2 < (x0.size : Int) then (if 3 < (x0.size : Int) then (if (IntKind.u64.wrap ((IntKind.u64.wrap ((IntKind.u64.wrap ((IntKind.u64.wrap (bt x0 0)) + (IntKind.u64.wrap (256 * (IntKind.u64.wrap (bt x0 1)))))) + (IntKind.u64.wrap (65536 * (IntKind.u64.wrap (bt x0 2)))))) + (IntKind.u64.wrap (16777216 * (IntKind.u64.wrap (bt x0 3)))))) > 1048576 then (vespersref06_Get.j1 k x0 x1 x2 (IntKind.u64.wrap ((IntKind.u64.wrap ((IntKind.u64.wrap ((IntKind.u64.wrap (bt x0 0)) + (IntKind.u64.wrap (256 * (IntKind.u64.wrap (bt x0 1)))))) + (IntKind.u64.wrap (65536 * (IntKind.u64.wrap (bt x0 2)))))) + (IntKind.u64.wrap (16777216 * (IntKind.u64.wrap (bt x0 3)))))) true) else (vespersref06_Get.j1 k x0 x1 x2 (IntKind.u64.wrap ((IntKind.u64.wrap ((IntKind.u64.wrap ((IntKind.u64.wrap (bt x0 0)) + (IntKind.u64.wrap (256 * (IntKind.u64.wrap (bt x0 1)))))) + (IntKind.u64.wrap (65536 * (IntKind.u64.wrap (bt x0 2)))))) + (IntKind.u64.wrap (16777216 * (IntKind.u64.wrap (bt x0 3)))))) (decide ((IntKind.u64.wrap ((IntKind.u64.wrap ((IntKind.u64.wrap ((IntKind.u64.wrap ((IntKind.u64.wrap (bt x0 0)) + (IntKind.u64.wrap (256 * (IntKind.u64.wrap (bt x0 1)))))) + (IntKind.u64.wrap (65536 * (IntKind.u64.wrap (bt x0 2)))))) + (IntKind.u64.wrap (16777216 * (IntKind.u64.wrap (bt x0 3)))))) + 16)) > (IntKind.u64.wrap ((x0.size : Int))))))) else (none)) else (none)) else (none)) else (none))
def vespersref06_Get.j1 : Nat → ByteArray → Int → Int → Int → Bool → Option (ByteArray × Int)
  | 0, _, _, _, _, _ => none
  | k + 1, x0, x1, x2, x8, x44 => if x44 = true then (some ((⟨#[]⟩ : ByteArray), (-1))) else (if 12 ≤ (wrap64 (12 + (wrap64 (x8)))) then (if (wrap64 (12 + (wrap64 (x8)))) ≤ (x0.size : Int) then ((vespersref06_Put.f k x1 x2 (x0.extract 12 ((wrap64 (12 + (wrap64 (x8)))) : Int).toNat)).bind fun t146 => (if 0 ≤ (wrap64 (16 + (wrap64 (x8)))) then (if (wrap64 (16 + (wrap64 (x8)))) ≤ (x0.size : Int) then (if t146.toList = (x0.extract 0 ((wrap64 (16 + (wrap64 (x8)))) : Int).toNat).toList then (some (x0.extract 12 ((wrap64 (12 + (wrap64 (x8)))) : Int).toNat, wrap64 (16 + (wrap64 (x8))))) else (some ((⟨#[]⟩ : ByteArray), (-1)))) else (none)) else (none))) else (none)) else (none))
end
def vespersref06_Get.f (k : Nat) (a0 : ByteArray) (a1 : Int) (a2 : Int) : Option (ByteArray × Int) := if (a0.size : Int) < 16 then (vespersref06_Get.j0 k a0 a1 a2 true) else (vespersref06_Get.j0 k a0 a1 a2 (a1 == 0))
theorem vespersref06_Get.mono_l : ∀ k, (∀ y0 y1 y2 y3, LeO (vespersref06_Get.j0 k y0 y1 y2 y3) (vespersref06_Get.j0 (k + 1) y0 y1 y2 y3)) ∧ (∀ y0 y1 y2 y3 y4, LeO (vespersref06_Get.j1 k y0 y1 y2 y3 y4) (vespersref06_Get.j1 (k + 1) y0 y1 y2 y3 y4))
  | 0 => ⟨fun _ _ _ _ r h => by simp [vespersref06_Get.j0] at h, fun _ _ _ _ _ r h => by simp [vespersref06_Get.j1] at h⟩
  | k + 1 => by
    obtain ⟨ih0, ih1⟩ := vespersref06_Get.mono_l k
    refine ⟨?_, ?_⟩
    · intro y0 y1 y2 y3
      unfold vespersref06_Get.j0
      repeat' first
      | (with_reducible exact ih0 _ _ _ _)
      | (with_reducible exact ih1 _ _ _ _ _)
      | (with_reducible exact vespersref06_Put.mono _ _ _ _)
      | (with_reducible exact LeO.refl _)
      | (with_reducible exact LeO.none _)
      | (with_reducible refine LeO.ite ?_ ?_)
      | (with_reducible refine LeO.bind ?_ (fun _ => ?_))
      | exact ih0 _ _ _ _
      | exact ih1 _ _ _ _ _
      | exact vespersref06_Put.mono _ _ _ _
      | exact LeO.none _
      | refine LeO.ite ?_ ?_
      | refine LeO.bind ?_ (fun _ => ?_)
    · intro y0 y1 y2 y3 y4
      unfold vespersref06_Get.j1
      repeat' first
      | (with_reducible exact ih0 _ _ _ _)
      | (with_reducible exact ih1 _ _ _ _ _)
      | (with_reducible exact vespersref06_Put.mono _ _ _ _)
      | (with_reducible exact LeO.refl _)
      | (with_reducible exact LeO.none _)
      | (with_reducible refine LeO.ite ?_ ?_)
      | (with_reducible refine LeO.bind ?_ (fun _ => ?_))
      | exact ih0 _ _ _ _
      | exact ih1 _ _ _ _ _
      | exact vespersref06_Put.mono _ _ _ _
      | exact LeO.none _
      | refine LeO.ite ?_ ?_
      | refine LeO.bind ?_ (fun _ => ?_)
theorem vespersref06_Get.mono : ∀ a0 a1 a2 k, LeO (vespersref06_Get.f k a0 a1 a2) (vespersref06_Get.f (k + 1) a0 a1 a2) := by
  intro a0 a1 a2 k
  obtain ⟨ih0, ih1⟩ := vespersref06_Get.mono_l k
  unfold vespersref06_Get.f
  repeat' first
      | (with_reducible exact ih0 _ _ _ _)
      | (with_reducible exact ih1 _ _ _ _ _)
      | (with_reducible exact vespersref06_Put.mono _ _ _ _)
      | (with_reducible exact LeO.refl _)
      | (with_reducible exact LeO.none _)
      | (with_reducible refine LeO.ite ?_ ?_)
      | (with_reducible refine LeO.bind ?_ (fun _ => ?_))
      | exact ih0 _ _ _ _
      | exact ih1 _ _ _ _ _
      | exact vespersref06_Put.mono _ _ _ _
      | exact LeO.none _
      | refine LeO.ite ?_ ?_
      | refine LeO.bind ?_ (fun _ => ?_)
def vespersref06_Get.T3 : Bool × List (List Nat × List Nat) := (true, [([], []), ([0], [0]), ([1], [1]), ([], []), ([3], [3]), ([4], [4]), ([5], [5]), ([2, 6], [2, 6]), ([], []), ([8], [8]), ([9], [9]), ([10], [10]), ([7, 11], [7, 11]), ([], []), ([13], [13]), ([14], [14]), ([15], [15]), ([12, 16], [12, 16]), ([17, 0, 1, 2, 3, 4, 5, 6, 7, 8, 9, 10, 11, 12, 13, 14, 15, 16, 17], [17])])
def vespersref06_Get.B3 : List Nat := [0, 1, 3, 0, 8, 24, 56, 127, 0, 256, 768, 1792, 4095, 0, 8192, 24576, 57344, 131071, 262143]
theorem vespersref06_Get.tab3 : rtab .any (opsOf Tryd.f10 3) = vespersref06_Get.T3 := by kernel_rfl
theorem vespersref06_Get.bits3 : waitsOk vespersref06_Get.T3.2 vespersref06_Get.B3 = true := by kernel_rfl
def vespersref06_Get.T7 : Bool × List (List Nat × List Nat) := (true, [([], []), ([], []), ([], []), ([0, 1, 2], [0, 1, 2]), ([], []), ([], []), ([5], [5]), ([6], [6]), ([4, 7], [4, 7]), ([3, 8], [3, 8])])
def vespersref06_Get.B7 : List Nat := [0, 0, 0, 7, 0, 0, 32, 96, 240, 511]
theorem vespersref06_Get.tab7 : rtab .any (opsOf Tryd.f10 7) = vespersref06_Get.T7 := by kernel_rfl
theorem vespersref06_Get.bits7 : waitsOk vespersref06_Get.T7.2 vespersref06_Get.B7 = true := by kernel_rfl
set_option maxHeartbeats 8000000 in
set_option maxRecDepth 100000 in
theorem vespersref06_Get.calls (k : Nat) (a0 : ByteArray) (a1 : Int) (a2 : Int) (r1 : ByteArray) (r2 : Int) (w : World) (h : vespersref06_Get.f k a0 a1 a2 = some (r1, r2)) :
    Calls Tryd.prog 10 #[.string a0, .int .u32 a1, .int .u32 a2] w fun e w' => e = .returned (.tuple #[.string r1, .int .i64 r2]) ∧ Below w.heap.size w w' := by
  have HB := Aside0.mk (Below.refl w.heap.size w)
  have H : (if (a0.size : Int) < 16 then (vespersref06_Get.j0 k a0 a1 a2 true) else (vespersref06_Get.j0 k a0 a1 a2 (a1 == 0))) = some (r1, r2) := h
  clear h
  have HC4 := Aside0.mk H
  clear H
  go_enter Tryd.func10, Tryd.ntmps10
  go_upto_region 1 with (fail)
  go_cut [16] (fun v16 wc => ∃ (kq : Nat) (x16_3 : Bool), v16 = .bool x16_3 ∧ Aside0 (vespersref06_Get.j0 kq a0 a1 a2 x16_3 = some (r1, r2)) ∧ Aside0 (kq ≤ k) ∧ Aside0 (Below w.heap.size w wc))
  case first =>
    have H := HC4.out
    clear HC4
    by_cases c5 : (a0.size : Int) < 16
    · rw [if_pos c5] at H
      have c5b0 : decide ((a0.size : Int) < 16) = true := decide_eq_true c5
      have c5b1 : decide (a0.size < 16) = true := decide_eq_true (by omega)
      clear c5
      (first | rw [c5b0] | (simp only [i64_w, i32_w]; rw [c5b0]) | skip)
      have H' := Aside0.mk H
      clear H
      go_wp2
      go_meet
      case rel => exact ⟨_, (true), (by first | rfl | (simp; done) | (simp [*]; done)), H', ⟨by first | omega | exact Nat.le_refl _⟩, ⟨by repeat (first | (with_reducible first | exact HB.out | apply below_alloc | apply pw_below_drewN | apply below_drew1) | exact HB.out)⟩⟩
    · rw [if_neg c5] at H
      have c5b0 : decide ((a0.size : Int) < 16) = false := decide_eq_false c5
      have c5b1 : decide (a0.size < 16) = false := decide_eq_false (by omega)
      clear c5
      (first | rw [c5b0] | (simp only [i64_w, i32_w]; rw [c5b0]) | skip)
      have H' := Aside0.mk H
      clear H
      go_wp2
      go_meet
      case rel => exact ⟨_, ((a1 == 0)), (by first | rfl | (simp; done) | (simp [*]; done)), H', ⟨by first | omega | exact Nat.le_refl _⟩, ⟨by repeat (first | (with_reducible first | exact HB.out | apply below_alloc | apply pw_below_drewN | apply below_drew1) | exact HB.out)⟩⟩
  case rest =>
    clear HC4
    try clear c1
    try clear p2
    try clear c5
    try clear c5b0
    try clear c5b1
    obtain ⟨kq, x16_3, rfl, HA, HJ3, HB⟩ := hcut
    cases kq with
    | zero => exact absurd HA.out (by simp [vespersref06_Get.j0])
    | succ kj3 =>
      have H := HA.out
      clear HA
      simp only [vespersref06_Get.j0] at H
      by_cases c6 : x16_3 = true
      · subst c6
        have H1 : (some ((⟨#[]⟩ : ByteArray), (-1))) = some (r1, r2) := by rw [if_pos rfl] at H; exact H
        clear H
        have H := H1
        clear H1
        simp only [Option.some.injEq, Prod.mk.injEq] at H
        obtain ⟨rfl, rfl⟩ := H
        go_wp2
        go_ret2
        exact ⟨by first | rfl | (simp [errW_none, errW_some] <;> rfl) | (simp [*, errW_none, errW_some] <;> rfl) | (simp only [IntWalk.i64_left]; rfl), by repeat (first | (with_reducible first | exact HB.out | apply below_alloc | apply pw_below_drewN | apply below_drew1) | exact HB.out)⟩
      · replace c6 := Bool.eq_false_iff.mpr c6
        subst c6
        have H1 : (if 0 < (a0.size : Int) then (if 1 < (a0.size : Int) then (if 2 < (a0.size : Int) then (if 3 < (a0.size : Int) then (if (IntKind.u64.wrap ((IntKind.u64.wrap ((IntKind.u64.wrap ((IntKind.u64.wrap (bt a0 0)) + (IntKind.u64.wrap (256 * (IntKind.u64.wrap (bt a0 1)))))) + (IntKind.u64.wrap (65536 * (IntKind.u64.wrap (bt a0 2)))))) + (IntKind.u64.wrap (16777216 * (IntKind.u64.wrap (bt a0 3)))))) > 1048576 then (vespersref06_Get.j1 kj3 a0 a1 a2 (IntKind.u64.wrap ((IntKind.u64.wrap ((IntKind.u64.wrap ((IntKind.u64.wrap (bt a0 0)) + (IntKind.u64.wrap (256 * (IntKind.u64.wrap (bt a0 1)))))) + (IntKind.u64.wrap (65536 * (IntKind.u64.wrap (bt a0 2)))))) + (IntKind.u64.wrap (16777216 * (IntKind.u64.wrap (bt a0 3)))))) true) else (vespersref06_Get.j1 kj3 a0 a1 a2 (IntKind.u64.wrap ((IntKind.u64.wrap ((IntKind.u64.wrap ((IntKind.u64.wrap (bt a0 0)) + (IntKind.u64.wrap (256 * (IntKind.u64.wrap (bt a0 1)))))) + (IntKind.u64.wrap (65536 * (IntKind.u64.wrap (bt a0 2)))))) + (IntKind.u64.wrap (16777216 * (IntKind.u64.wrap (bt a0 3)))))) (decide ((IntKind.u64.wrap ((IntKind.u64.wrap ((IntKind.u64.wrap ((IntKind.u64.wrap ((IntKind.u64.wrap (bt a0 0)) + (IntKind.u64.wrap (256 * (IntKind.u64.wrap (bt a0 1)))))) + (IntKind.u64.wrap (65536 * (IntKind.u64.wrap (bt a0 2)))))) + (IntKind.u64.wrap (16777216 * (IntKind.u64.wrap (bt a0 3)))))) + 16)) > (IntKind.u64.wrap ((a0.size : Int))))))) else (none)) else (none)) else (none)) else (none)) = some (r1, r2) := by rw [if_neg (show ¬ (false = true) by decide)] at H; exact H
        clear H
        have H := H1
        clear H1
        by_cases c7 : 0 < (a0.size : Int)
        · rw [if_pos c7] at H
          have c7b0 : decide (0 < (a0.size : Int)) = true := decide_eq_true c7
          have c7b1 : decide (0 < a0.size) = true := decide_eq_true (by omega)
          clear c7
          by_cases c9 : 1 < (a0.size : Int)
          · rw [if_pos c9] at H
            have c9b0 : decide (1 < (a0.size : Int)) = true := decide_eq_true c9
            have c9b1 : decide (1 < a0.size) = true := decide_eq_true (by omega)
            clear c9
            by_cases c11 : 2 < (a0.size : Int)
            · rw [if_pos c11] at H
              have c11b0 : decide (2 < (a0.size : Int)) = true := decide_eq_true c11
              have c11b1 : decide (2 < a0.size) = true := decide_eq_true (by omega)
              clear c11
              by_cases c13 : 3 < (a0.size : Int)
              · rw [if_pos c13] at H
                have c13b0 : decide (3 < (a0.size : Int)) = true := decide_eq_true c13
                have c13b1 : decide (3 < a0.size) = true := decide_eq_true (by omega)
                clear c13
                have HC15 := Aside0.mk H
                clear H
                try go_wp2
                have n0_ := Aside0.mk (below_drew1 HB.out)
                clear HB
                have HB := n0_
                clear n0_
                have p8 : 0 ≤ (0 : Int) := (by omega)
                have q8 : 0 < a0.size := (by have : (0 : Int) < (a0.size : Int) := of_decide_eq_true (by first | (with_reducible assumption) | assumption); omega)
                have hx8 : ∀ h : 0 < a0.size, ((a0[0]'h).toNat : Int) = bt a0 0 := bt_at a0 0
                clear p8
                have qi8 : (0 < (a0.size : Int)) = True := eq_true (of_decide_eq_true (by first | (with_reducible assumption) | assumption))
                replace q8 := eq_true q8
                have p10 : 0 ≤ (1 : Int) := (by omega)
                have q10 : 1 < a0.size := (by have : (1 : Int) < (a0.size : Int) := of_decide_eq_true (by first | (with_reducible assumption) | assumption); omega)
                have hx10 : ∀ h : 1 < a0.size, ((a0[1]'h).toNat : Int) = bt a0 1 := bt_at a0 1
                clear p10
                have qi10 : (1 < (a0.size : Int)) = True := eq_true (of_decide_eq_true (by first | (with_reducible assumption) | assumption))
                replace q10 := eq_true q10
                have p12 : 0 ≤ (2 : Int) := (by omega)
                have q12 : 2 < a0.size := (by have : (2 : Int) < (a0.size : Int) := of_decide_eq_true (by first | (with_reducible assumption) | assumption); omega)
                have hx12 : ∀ h : 2 < a0.size, ((a0[2]'h).toNat : Int) = bt a0 2 := bt_at a0 2
                clear p12
                have qi12 : (2 < (a0.size : Int)) = True := eq_true (of_decide_eq_true (by first | (with_reducible assumption) | assumption))
                replace q12 := eq_true q12
                have p14 : 0 ≤ (3 : Int) := (by omega)
                have q14 : 3 < a0.size := (by have : (3 : Int) < (a0.size : Int) := of_decide_eq_true (by first | (with_reducible assumption) | assumption); omega)
                have hx14 : ∀ h : 3 < a0.size, ((a0[3]'h).toNat : Int) = bt a0 3 := bt_at a0 3
                clear p14
                have qi14 : (3 < (a0.size : Int)) = True := eq_true (of_decide_eq_true (by first | (with_reducible assumption) | assumption))
                replace q14 := eq_true q14
                refine start_ (n := 19) (S := fun w' => True) (ds := []) #[false, false, false, false, false, false, false, false, false, false, false, false, false, false, false, false, false, false, false] (by kernel_rfl) rfl rfl trivial (fun hHeld => ?_); refine with_tabW vespersref06_Get.tab3 vespersref06_Get.bits3 (fun HT_ HW_ => ?_)
                generalize wc.drew = w16 at HB hHeld ⊢
                refine pure_ (i := 0) (N := some 17) (v := ?_) (a' := ?_) #[true, false, false, false, false, false, false, false, false, false, false, false, false, false, false, false, false, false, false] rfl rfl (any_of HT_.out (by kernel_rfl)) (fun _ _ _ h => h) (Or.inl ⟨by rfl, ?_⟩) ?_ ?_
                rotate_left
                · intro w'
                  go_simp
                  with_reducible rfl
                rotate_left
                · simp only [Act.put, List.setIfInBounds_toArray, List.set_cons_zero, List.set_cons_succ, i64_w, i32_w]
                  rfl
                refine pure_ (i := 3) (N := some 20) (v := ?_) (a' := ?_) #[true, false, false, true, false, false, false, false, false, false, false, false, false, false, false, false, false, false, false] rfl rfl (any_of HT_.out (by kernel_rfl)) (fun _ _ _ h => h) (Or.inl ⟨by rfl, ?_⟩) ?_ ?_
                rotate_left
                · intro w'
                  go_simp
                  with_reducible rfl
                rotate_left
                · simp only [Act.put, List.setIfInBounds_toArray, List.set_cons_zero, List.set_cons_succ, i64_w, i32_w]
                  rfl
                refine pure_ (i := 8) (N := some 25) (v := ?_) (a' := ?_) #[true, false, false, true, false, false, false, false, true, false, false, false, false, false, false, false, false, false, false] rfl rfl (any_of HT_.out (by kernel_rfl)) (fun _ _ _ h => h) (Or.inl ⟨by rfl, ?_⟩) ?_ ?_
                rotate_left
                · intro w'
                  go_simp
                  with_reducible rfl
                rotate_left
                · simp only [Act.put, List.setIfInBounds_toArray, List.set_cons_zero, List.set_cons_succ, i64_w, i32_w]
                  rfl
                refine pure_ (i := 13) (N := some 30) (v := ?_) (a' := ?_) #[true, false, false, true, false, false, false, false, true, false, false, false, false, true, false, false, false, false, false] rfl rfl (any_of HT_.out (by kernel_rfl)) (fun _ _ _ h => h) (Or.inl ⟨by rfl, ?_⟩) ?_ ?_
                rotate_left
                · intro w'
                  go_simp
                  with_reducible rfl
                rotate_left
                · simp only [Act.put, List.setIfInBounds_toArray, List.set_cons_zero, List.set_cons_succ, i64_w, i32_w]
                  rfl
                refine take_ (i := 1) (N := some 18) (v := ?_) (a' := ?_) #[true, true, false, true, false, false, false, false, true, false, false, false, false, true, false, false, false, false, false] rfl rfl (take_ofW HT_.out HW_.out (by kernel_rfl)) (fun _ _ _ h => h) (Or.inl ⟨by rfl, ?_⟩) hHeld ?_ ?_
                rotate_left
                · intro w' _
                  go_simp
                  with_reducible rfl
                rotate_left
                · simp only [Act.put, List.setIfInBounds_toArray, List.set_cons_zero, List.set_cons_succ, i64_w, i32_w]
                  rfl
                refine pure_ (i := 2) (N := some 19) (v := ?_) (a' := ?_) #[true, true, true, true, false, false, false, false, true, false, false, false, false, true, false, false, false, false, false] rfl rfl (any_of HT_.out (by kernel_rfl)) (fun _ _ _ h => h) (Or.inl ⟨by rfl, ?_⟩) ?_ ?_
                rotate_left
                · intro w'
                  go_simp
                  with_reducible rfl
                rotate_left
                · simp only [Act.put, List.setIfInBounds_toArray, List.set_cons_zero, List.set_cons_succ, i64_w, i32_w]
                  rfl
                refine take_ (i := 4) (N := some 21) (v := ?_) (a' := ?_) #[true, true, true, true, true, false, false, false, true, false, false, false, false, true, false, false, false, false, false] rfl rfl (take_ofW HT_.out HW_.out (by kernel_rfl)) (fun _ _ _ h => h) (Or.inl ⟨by rfl, ?_⟩) hHeld ?_ ?_
                rotate_left
                · intro w' _
                  go_simp
                  with_reducible rfl
                rotate_left
                · simp only [Act.put, List.setIfInBounds_toArray, List.set_cons_zero, List.set_cons_succ, i64_w, i32_w]
                  rfl
                refine pure_ (i := 5) (N := some 22) (v := ?_) (a' := ?_) #[true, true, true, true, true, true, false, false, true, false, false, false, false, true, false, false, false, false, false] rfl rfl (any_of HT_.out (by kernel_rfl)) (fun _ _ _ h => h) (Or.inl ⟨by rfl, ?_⟩) ?_ ?_
                rotate_left
                · intro w'
                  go_simp
                  with_reducible rfl
                rotate_left
                · simp only [Act.put, List.setIfInBounds_toArray, List.set_cons_zero, List.set_cons_succ, i64_w, i32_w]
                  rfl
                refine pure_ (i := 6) (N := some 23) (v := ?_) (a' := ?_) #[true, true, true, true, true, true, true, false, true, false, false, false, false, true, false, false, false, false, false] rfl rfl (any_of HT_.out (by kernel_rfl)) (fun _ _ _ h => h) (Or.inl ⟨by rfl, ?_⟩) ?_ ?_
                rotate_left
                · intro w'
                  go_simp
                  with_reducible rfl
                rotate_left
                · simp only [Act.put, List.setIfInBounds_toArray, List.set_cons_zero, List.set_cons_succ, i64_w, i32_w]
                  rfl
                refine pure_ (i := 7) (N := some 24) (v := ?_) (a' := ?_) #[true, true, true, true, true, true, true, true, true, false, false, false, false, true, false, false, false, false, false] rfl rfl (any_of HT_.out (by kernel_rfl)) (fun _ _ _ h => h) (Or.inl ⟨by rfl, ?_⟩) ?_ ?_
                rotate_left
                · intro w'
                  go_simp
                  with_reducible rfl
                rotate_left
                · simp only [Act.put, List.setIfInBounds_toArray, List.set_cons_zero, List.set_cons_succ, i64_w, i32_w]
                  rfl
                refine take_ (i := 9) (N := some 26) (v := ?_) (a' := ?_) #[true, true, true, true, true, true, true, true, true, true, false, false, false, true, false, false, false, false, false] rfl rfl (take_ofW HT_.out HW_.out (by kernel_rfl)) (fun _ _ _ h => h) (Or.inl ⟨by rfl, ?_⟩) hHeld ?_ ?_
                rotate_left
                · intro w' _
                  go_simp
                  with_reducible rfl
                rotate_left
                · simp only [Act.put, List.setIfInBounds_toArray, List.set_cons_zero, List.set_cons_succ, i64_w, i32_w]
                  rfl
                refine pure_ (i := 10) (N := some 27) (v := ?_) (a' := ?_) #[true, true, true, true, true, true, true, true, true, true, true, false, false, true, false, false, false, false, false] rfl rfl (any_of HT_.out (by kernel_rfl)) (fun _ _ _ h => h) (Or.inl ⟨by rfl, ?_⟩) ?_ ?_
                rotate_left
                · intro w'
                  go_simp
                  with_reducible rfl
                rotate_left
                · simp only [Act.put, List.setIfInBounds_toArray, List.set_cons_zero, List.set_cons_succ, i64_w, i32_w]
                  rfl
                refine pure_ (i := 11) (N := some 28) (v := ?_) (a' := ?_) #[true, true, true, true, true, true, true, true, true, true, true, true, false, true, false, false, false, false, false] rfl rfl (any_of HT_.out (by kernel_rfl)) (fun _ _ _ h => h) (Or.inl ⟨by rfl, ?_⟩) ?_ ?_
                rotate_left
                · intro w'
                  go_simp
                  with_reducible rfl
                rotate_left
                · simp only [Act.put, List.setIfInBounds_toArray, List.set_cons_zero, List.set_cons_succ, i64_w, i32_w]
                  rfl
                refine pure_ (i := 12) (N := some 29) (v := ?_) (a' := ?_) #[true, true, true, true, true, true, true, true, true, true, true, true, true, true, false, false, false, false, false] rfl rfl (any_of HT_.out (by kernel_rfl)) (fun _ _ _ h => h) (Or.inl ⟨by rfl, ?_⟩) ?_ ?_
                rotate_left
                · intro w'
                  go_simp
                  with_reducible rfl
                rotate_left
                · simp only [Act.put, List.setIfInBounds_toArray, List.set_cons_zero, List.set_cons_succ, i64_w, i32_w]
                  rfl
                refine take_ (i := 14) (N := some 31) (v := ?_) (a' := ?_) #[true, true, true, true, true, true, true, true, true, true, true, true, true, true, true, false, false, false, false] rfl rfl (take_ofW HT_.out HW_.out (by kernel_rfl)) (fun _ _ _ h => h) (Or.inl ⟨by rfl, ?_⟩) hHeld ?_ ?_
                rotate_left
                · intro w' _
                  go_simp
                  with_reducible rfl
                rotate_left
                · simp only [Act.put, List.setIfInBounds_toArray, List.set_cons_zero, List.set_cons_succ, i64_w, i32_w]
                  rfl
                refine pure_ (i := 15) (N := some 32) (v := ?_) (a' := ?_) #[true, true, true, true, true, true, true, true, true, true, true, true, true, true, true, true, false, false, false] rfl rfl (any_of HT_.out (by kernel_rfl)) (fun _ _ _ h => h) (Or.inl ⟨by rfl, ?_⟩) ?_ ?_
                rotate_left
                · intro w'
                  go_simp
                  with_reducible rfl
                rotate_left
                · simp only [Act.put, List.setIfInBounds_toArray, List.set_cons_zero, List.set_cons_succ, i64_w, i32_w]
                  rfl
                refine pure_ (i := 16) (N := some 33) (v := ?_) (a' := ?_) #[true, true, true, true, true, true, true, true, true, true, true, true, true, true, true, true, true, false, false] rfl rfl (any_of HT_.out (by kernel_rfl)) (fun _ _ _ h => h) (Or.inl ⟨by rfl, ?_⟩) ?_ ?_
                rotate_left
                · intro w'
                  go_simp
                  with_reducible rfl
                rotate_left
                · simp only [Act.put, List.setIfInBounds_toArray, List.set_cons_zero, List.set_cons_succ, i64_w, i32_w]
                  rfl
                refine pure_ (i := 17) (N := some 34) (v := ?_) (a' := ?_) #[true, true, true, true, true, true, true, true, true, true, true, true, true, true, true, true, true, true, false] rfl rfl (any_of HT_.out (by kernel_rfl)) (fun _ _ _ h => h) (Or.inl ⟨by rfl, ?_⟩) ?_ ?_
                rotate_left
                · intro w'
                  go_simp
                  with_reducible rfl
                rotate_left
                · simp only [Act.put, List.setIfInBounds_toArray, List.set_cons_zero, List.set_cons_succ, i64_w, i32_w]
                  rfl
                refine pure_ (i := 18) (N := some 8) (v := ?_) (a' := ?_) #[true, true, true, true, true, true, true, true, true, true, true, true, true, true, true, true, true, true, true] rfl rfl (any_of HT_.out (by kernel_rfl)) (fun _ _ _ h => h) (Or.inl ⟨by rfl, ?_⟩) ?_ ?_
                rotate_left
                · intro w'
                  go_simp
                  with_reducible rfl
                rotate_left
                · simp only [Act.put, List.setIfInBounds_toArray, List.set_cons_zero, List.set_cons_succ, i64_w, i32_w]
                  rfl
                refine done_ (done_of HT_.out (by kernel_rfl)) ?_
                go_upto_region 4 with (fail)
                go_cut [44] (fun v44 wc => ∃ (kq : Nat) (x44_14 : Bool), v44 = .bool x44_14 ∧ Aside0 (vespersref06_Get.j1 kq a0 a1 a2 (IntKind.u64.wrap ((IntKind.u64.wrap ((IntKind.u64.wrap ((IntKind.u64.wrap (bt a0 0)) + (IntKind.u64.wrap (256 * (IntKind.u64.wrap (bt a0 1)))))) + (IntKind.u64.wrap (65536 * (IntKind.u64.wrap (bt a0 2)))))) + (IntKind.u64.wrap (16777216 * (IntKind.u64.wrap (bt a0 3)))))) x44_14 = some (r1, r2)) ∧ Aside0 (kq ≤ kj3) ∧ Aside0 (Below w.heap.size w wc))
                case first =>
                  have H := HC15.out
                  clear HC15
                  by_cases c17 : (IntKind.u64.wrap ((IntKind.u64.wrap ((IntKind.u64.wrap ((IntKind.u64.wrap (bt a0 0)) + (IntKind.u64.wrap (256 * (IntKind.u64.wrap (bt a0 1)))))) + (IntKind.u64.wrap (65536 * (IntKind.u64.wrap (bt a0 2)))))) + (IntKind.u64.wrap (16777216 * (IntKind.u64.wrap (bt a0 3)))))) > 1048576
                  · rw [if_pos c17] at H
                    have c17b0 : decide (1048576 < (IntKind.u64.wrap ((IntKind.u64.wrap ((IntKind.u64.wrap ((IntKind.u64.wrap (bt a0 0)) + (IntKind.u64.wrap (256 * (IntKind.u64.wrap (bt a0 1)))))) + (IntKind.u64.wrap (65536 * (IntKind.u64.wrap (bt a0 2)))))) + (IntKind.u64.wrap (16777216 * (IntKind.u64.wrap (bt a0 3))))))) = true := decide_eq_true c17
                    clear c17
                    (first | rw [c17b0] | (simp only [i64_w, i32_w]; rw [c17b0]) | skip)
                    have H' := Aside0.mk H
                    clear H
                    go_wp2
                    go_meet
                    case rel => exact ⟨_, (true), (by first | rfl | (simp; done) | (simp [*]; done)), H', ⟨by have := HJ3.out; first | omega | exact Nat.le_refl _⟩, ⟨by repeat (first | (with_reducible first | exact HB.out | apply below_alloc | apply pw_below_drewN | apply below_drew1) | exact HB.out)⟩⟩
                  · rw [if_neg c17] at H
                    have c17b0 : decide (1048576 < (IntKind.u64.wrap ((IntKind.u64.wrap ((IntKind.u64.wrap ((IntKind.u64.wrap (bt a0 0)) + (IntKind.u64.wrap (256 * (IntKind.u64.wrap (bt a0 1)))))) + (IntKind.u64.wrap (65536 * (IntKind.u64.wrap (bt a0 2)))))) + (IntKind.u64.wrap (16777216 * (IntKind.u64.wrap (bt a0 3))))))) = false := decide_eq_false c17
                    clear c17
                    (first | rw [c17b0] | (simp only [i64_w, i32_w]; rw [c17b0]) | skip)
                    have H' := Aside0.mk H
                    clear H
                    go_wp2
                    go_meet
                    case rel => exact ⟨_, (decide ((IntKind.u64.wrap ((IntKind.u64.wrap ((IntKind.u64.wrap ((IntKind.u64.wrap ((IntKind.u64.wrap (bt a0 0)) + (IntKind.u64.wrap (256 * (IntKind.u64.wrap (bt a0 1)))))) + (IntKind.u64.wrap (65536 * (IntKind.u64.wrap (bt a0 2)))))) + (IntKind.u64.wrap (16777216 * (IntKind.u64.wrap (bt a0 3)))))) + 16)) > (IntKind.u64.wrap ((a0.size : Int))))), (by first | rfl | (simp; done) | (simp [*]; done)), H', ⟨by have := HJ3.out; first | omega | exact Nat.le_refl _⟩, ⟨by repeat (first | (with_reducible first | exact HB.out | apply below_alloc | apply pw_below_drewN | apply below_drew1) | exact HB.out)⟩⟩
                case rest =>
                  clear HC15
                  try clear c1
                  try clear p1
                  try clear q1
                  try clear hx1
                  try clear qi1
                  try clear p2
                  try clear c5
                  try clear c5b0
                  try clear c5b1
                  try clear c6
                  try clear c7
                  try clear c7b0
                  try clear c7b1
                  try clear p8
                  try clear q8
                  try clear hx8
                  try clear qi8
                  try clear c9
                  try clear c9b0
                  try clear c9b1
                  try clear c10
                  try clear p10
                  try clear q10
                  try clear hx10
                  try clear qi10
                  try clear c11
                  try clear c11b0
                  try clear c11b1
                  try clear p12
                  try clear q12
                  try clear hx12
                  try clear qi12
                  try clear c13
                  try clear c13b0
                  try clear c13b1
                  try clear p14
                  try clear q14
                  try clear hx14
                  try clear qi14
                  try clear c17
                  try clear c17b0
                  try clear p10
                  try clear p12
                  try clear p14
                  try clear p2
                  try clear p8
                  try clear q10
                  try clear q12
                  try clear q14
                  try clear q8
                  obtain ⟨kq, x44_14, rfl, HA, HJ14, HB⟩ := hcut
                  cases kq with
                  | zero => exact absurd HA.out (by simp [vespersref06_Get.j1])
                  | succ kj14 =>
                    have H := HA.out
                    clear HA
                    simp only [vespersref06_Get.j1] at H
                    by_cases c18 : x44_14 = true
                    · subst c18
                      have H1 : (some ((⟨#[]⟩ : ByteArray), (-1))) = some (r1, r2) := by rw [if_pos rfl] at H; exact H
                      clear H
                      have H := H1
                      clear H1
                      simp only [Option.some.injEq, Prod.mk.injEq] at H
                      obtain ⟨rfl, rfl⟩ := H
                      go_wp2
                      go_ret2
                      exact ⟨by first | rfl | (simp [errW_none, errW_some] <;> rfl) | (simp [*, errW_none, errW_some] <;> rfl) | (simp only [IntWalk.i64_left]; rfl), by repeat (first | (with_reducible first | exact HB.out | apply below_alloc | apply pw_below_drewN | apply below_drew1) | exact HB.out)⟩
                    · replace c18 := Bool.eq_false_iff.mpr c18
                      subst c18
                      have H1 : (if 12 ≤ (wrap64 (12 + (wrap64 ((IntKind.u64.wrap ((IntKind.u64.wrap ((IntKind.u64.wrap ((IntKind.u64.wrap (bt a0 0)) + (IntKind.u64.wrap (256 * (IntKind.u64.wrap (bt a0 1)))))) + (IntKind.u64.wrap (65536 * (IntKind.u64.wrap (bt a0 2)))))) + (IntKind.u64.wrap (16777216 * (IntKind.u64.wrap (bt a0 3)))))))))) then (if (wrap64 (12 + (wrap64 ((IntKind.u64.wrap ((IntKind.u64.wrap ((IntKind.u64.wrap ((IntKind.u64.wrap (bt a0 0)) + (IntKind.u64.wrap (256 * (IntKind.u64.wrap (bt a0 1)))))) + (IntKind.u64.wrap (65536 * (IntKind.u64.wrap (bt a0 2)))))) + (IntKind.u64.wrap (16777216 * (IntKind.u64.wrap (bt a0 3)))))))))) ≤ (a0.size : Int) then ((vespersref06_Put.f kj14 a1 a2 (a0.extract 12 ((wrap64 (12 + (wrap64 ((IntKind.u64.wrap ((IntKind.u64.wrap ((IntKind.u64.wrap ((IntKind.u64.wrap (bt a0 0)) + (IntKind.u64.wrap (256 * (IntKind.u64.wrap (bt a0 1)))))) + (IntKind.u64.wrap (65536 * (IntKind.u64.wrap (bt a0 2)))))) + (IntKind.u64.wrap (16777216 * (IntKind.u64.wrap (bt a0 3)))))))))) : Int).toNat)).bind fun t146 => (if 0 ≤ (wrap64 (16 + (wrap64 ((IntKind.u64.wrap ((IntKind.u64.wrap ((IntKind.u64.wrap ((IntKind.u64.wrap (bt a0 0)) + (IntKind.u64.wrap (256 * (IntKind.u64.wrap (bt a0 1)))))) + (IntKind.u64.wrap (65536 * (IntKind.u64.wrap (bt a0 2)))))) + (IntKind.u64.wrap (16777216 * (IntKind.u64.wrap (bt a0 3)))))))))) then (if (wrap64 (16 + (wrap64 ((IntKind.u64.wrap ((IntKind.u64.wrap ((IntKind.u64.wrap ((IntKind.u64.wrap (bt a0 0)) + (IntKind.u64.wrap (256 * (IntKind.u64.wrap (bt a0 1)))))) + (IntKind.u64.wrap (65536 * (IntKind.u64.wrap (bt a0 2)))))) + (IntKind.u64.wrap (16777216 * (IntKind.u64.wrap (bt a0 3)))))))))) ≤ (a0.size : Int) then (if t146.toList = (a0.extract 0 ((wrap64 (16 + (wrap64 ((IntKind.u64.wrap ((IntKind.u64.wrap ((IntKind.u64.wrap ((IntKind.u64.wrap (bt a0 0)) + (IntKind.u64.wrap (256 * (IntKind.u64.wrap (bt a0 1)))))) + (IntKind.u64.wrap (65536 * (IntKind.u64.wrap (bt a0 2)))))) + (IntKind.u64.wrap (16777216 * (IntKind.u64.wrap (bt a0 3)))))))))) : Int).toNat).toList then (some (a0.extract 12 ((wrap64 (12 + (wrap64 ((IntKind.u64.wrap ((IntKind.u64.wrap ((IntKind.u64.wrap ((IntKind.u64.wrap (bt a0 0)) + (IntKind.u64.wrap (256 * (IntKind.u64.wrap (bt a0 1)))))) + (IntKind.u64.wrap (65536 * (IntKind.u64.wrap (bt a0 2)))))) + (IntKind.u64.wrap (16777216 * (IntKind.u64.wrap (bt a0 3)))))))))) : Int).toNat, wrap64 (16 + (wrap64 ((IntKind.u64.wrap ((IntKind.u64.wrap ((IntKind.u64.wrap ((IntKind.u64.wrap (bt a0 0)) + (IntKind.u64.wrap (256 * (IntKind.u64.wrap (bt a0 1)))))) + (IntKind.u64.wrap (65536 * (IntKind.u64.wrap (bt a0 2)))))) + (IntKind.u64.wrap (16777216 * (IntKind.u64.wrap (bt a0 3))))))))))) else (some ((⟨#[]⟩ : ByteArray), (-1)))) else (none)) else (none))) else (none)) else (none)) = some (r1, r2) := by rw [if_neg (show ¬ (false = true) by decide)] at H; exact H
                      clear H
                      have H := H1
                      clear H1
                      by_cases c19 : 12 ≤ (wrap64 (12 + (wrap64 ((IntKind.u64.wrap ((IntKind.u64.wrap ((IntKind.u64.wrap ((IntKind.u64.wrap (bt a0 0)) + (IntKind.u64.wrap (256 * (IntKind.u64.wrap (bt a0 1)))))) + (IntKind.u64.wrap (65536 * (IntKind.u64.wrap (bt a0 2)))))) + (IntKind.u64.wrap (16777216 * (IntKind.u64.wrap (bt a0 3))))))))))
                      · rw [if_pos c19] at H
                        have c19b0 := eq_true c19
                        have c19b1 : decide (12 ≤ (wrap64 (12 + (wrap64 ((IntKind.u64.wrap ((IntKind.u64.wrap ((IntKind.u64.wrap ((IntKind.u64.wrap (bt a0 0)) + (IntKind.u64.wrap (256 * (IntKind.u64.wrap (bt a0 1)))))) + (IntKind.u64.wrap (65536 * (IntKind.u64.wrap (bt a0 2)))))) + (IntKind.u64.wrap (16777216 * (IntKind.u64.wrap (bt a0 3))))))))))) = true := decide_eq_true c19
                        by_cases c20 : (wrap64 (12 + (wrap64 ((IntKind.u64.wrap ((IntKind.u64.wrap ((IntKind.u64.wrap ((IntKind.u64.wrap (bt a0 0)) + (IntKind.u64.wrap (256 * (IntKind.u64.wrap (bt a0 1)))))) + (IntKind.u64.wrap (65536 * (IntKind.u64.wrap (bt a0 2)))))) + (IntKind.u64.wrap (16777216 * (IntKind.u64.wrap (bt a0 3)))))))))) ≤ (a0.size : Int)
                        · rw [if_pos c20] at H
                          have c20b0 := eq_true c20
                          have c20b1 : decide ((wrap64 (12 + (wrap64 ((IntKind.u64.wrap ((IntKind.u64.wrap ((IntKind.u64.wrap ((IntKind.u64.wrap (bt a0 0)) + (IntKind.u64.wrap (256 * (IntKind.u64.wrap (bt a0 1)))))) + (IntKind.u64.wrap (65536 * (IntKind.u64.wrap (bt a0 2)))))) + (IntKind.u64.wrap (16777216 * (IntKind.u64.wrap (bt a0 3)))))))))) ≤ (a0.size : Int)) = true := decide_eq_true c20
                          replace H := Option.bind_eq_some_iff.mp H
                          obtain ⟨t146, A210, H⟩ := H
                          replace H : (if 0 ≤ (wrap64 (16 + (wrap64 ((IntKind.u64.wrap ((IntKind.u64.wrap ((IntKind.u64.wrap ((IntKind.u64.wrap (bt a0 0)) + (IntKind.u64.wrap (256 * (IntKind.u64.wrap (bt a0 1)))))) + (IntKind.u64.wrap (65536 * (IntKind.u64.wrap (bt a0 2)))))) + (IntKind.u64.wrap (16777216 * (IntKind.u64.wrap (bt a0 3)))))))))) then (if (wrap64 (16 + (wrap64 ((IntKind.u64.wrap ((IntKind.u64.wrap ((IntKind.u64.wrap ((IntKind.u64.wrap (bt a0 0)) + (IntKind.u64.wrap (256 * (IntKind.u64.wrap (bt a0 1)))))) + (IntKind.u64.wrap (65536 * (IntKind.u64.wrap (bt a0 2)))))) + (IntKind.u64.wrap (16777216 * (IntKind.u64.wrap (bt a0 3)))))))))) ≤ (a0.size : Int) then (if t146.toList = (a0.extract 0 ((wrap64 (16 + (wrap64 ((IntKind.u64.wrap ((IntKind.u64.wrap ((IntKind.u64.wrap ((IntKind.u64.wrap (bt a0 0)) + (IntKind.u64.wrap (256 * (IntKind.u64.wrap (bt a0 1)))))) + (IntKind.u64.wrap (65536 * (IntKind.u64.wrap (bt a0 2)))))) + (IntKind.u64.wrap (16777216 * (IntKind.u64.wrap (bt a0 3)))))))))) : Int).toNat).toList then (some (a0.extract 12 ((wrap64 (12 + (wrap64 ((IntKind.u64.wrap ((IntKind.u64.wrap ((IntKind.u64.wrap ((IntKind.u64.wrap (bt a0 0)) + (IntKind.u64.wrap (256 * (IntKind.u64.wrap (bt a0 1)))))) + (IntKind.u64.wrap (65536 * (IntKind.u64.wrap (bt a0 2)))))) + (IntKind.u64.wrap (16777216 * (IntKind.u64.wrap (bt a0 3)))))))))) : Int).toNat, wrap64 (16 + (wrap64 ((IntKind.u64.wrap ((IntKind.u64.wrap ((IntKind.u64.wrap ((IntKind.u64.wrap (bt a0 0)) + (IntKind.u64.wrap (256 * (IntKind.u64.wrap (bt a0 1)))))) + (IntKind.u64.wrap (65536 * (IntKind.u64.wrap (bt a0 2)))))) + (IntKind.u64.wrap (16777216 * (IntKind.u64.wrap (bt a0 3))))))))))) else (some ((⟨#[]⟩ : ByteArray), (-1)))) else (none)) else (none)) = some (r1, r2) := H
                          have A21 := Aside0.mk A210
                          clear A210
                          obtain ⟨ji22, hji22⟩ : ∃ j_ : Int, (wrap64 (16 + (wrap64 ((IntKind.u64.wrap ((IntKind.u64.wrap ((IntKind.u64.wrap ((IntKind.u64.wrap (bt a0 0)) + (IntKind.u64.wrap (256 * (IntKind.u64.wrap (bt a0 1)))))) + (IntKind.u64.wrap (65536 * (IntKind.u64.wrap (bt a0 2)))))) + (IntKind.u64.wrap (16777216 * (IntKind.u64.wrap (bt a0 3)))))))))) = j_ := ⟨_, rfl⟩
                          replace H : (if 0 ≤ (ji22) then (if (ji22) ≤ (a0.size : Int) then (if t146.toList = (a0.extract 0 ((ji22) : Int).toNat).toList then (some (a0.extract 12 ((wrap64 (12 + (wrap64 ((IntKind.u64.wrap ((IntKind.u64.wrap ((IntKind.u64.wrap ((IntKind.u64.wrap (bt a0 0)) + (IntKind.u64.wrap (256 * (IntKind.u64.wrap (bt a0 1)))))) + (IntKind.u64.wrap (65536 * (IntKind.u64.wrap (bt a0 2)))))) + (IntKind.u64.wrap (16777216 * (IntKind.u64.wrap (bt a0 3)))))))))) : Int).toNat, ji22)) else (some ((⟨#[]⟩ : ByteArray), (-1)))) else (none)) else (none)) = some (r1, r2) := by first | (rw [hji22] at H; exact H) | (simp only [hji22] at H ⊢; exact H)
                          (try rw [hji22] at A21)
                          have hji22w : (IntKind.i64.wrap (16 + (wrap64 ((IntKind.u64.wrap ((IntKind.u64.wrap ((IntKind.u64.wrap ((IntKind.u64.wrap (bt a0 0)) + (IntKind.u64.wrap (256 * (IntKind.u64.wrap (bt a0 1)))))) + (IntKind.u64.wrap (65536 * (IntKind.u64.wrap (bt a0 2)))))) + (IntKind.u64.wrap (16777216 * (IntKind.u64.wrap (bt a0 3)))))))))) = ji22 := (i64_w _).trans hji22
                          by_cases c23 : 0 ≤ (ji22)
                          · rw [if_pos c23] at H
                            have c23b0 := eq_true c23
                            have c23b1 : decide (0 ≤ (ji22)) = true := decide_eq_true c23
                            clear c23
                            by_cases c24 : (ji22) ≤ (a0.size : Int)
                            · rw [if_pos c24] at H
                              have c24b0 := eq_true c24
                              have c24b1 : decide ((ji22) ≤ (a0.size : Int)) = true := decide_eq_true c24
                              clear c24
                              by_cases c25 : t146.toList = (a0.extract 0 ((ji22) : Int).toNat).toList
                              · rw [if_pos c25] at H
                                have c25b0 : (t146.toList == (a0.extract 0 ((ji22) : Int).toNat).toList) = true := beq_iff_eq.mpr c25
                                have c25b1 : (t146.toList != (a0.extract 0 ((ji22) : Int).toNat).toList) = false := bne_eq_false_iff_eq.mpr c25
                                clear c25
                                simp only [Option.some.injEq, Prod.mk.injEq] at H
                                obtain ⟨rfl, rfl⟩ := H
                                try go_wp2
                                have n0_ := Aside0.mk (below_drew1 HB.out)
                                clear HB
                                have HB := n0_
                                clear n0_
                                refine start_ (n := 10) (S := fun w' => True) (ds := []) #[false, false, false, false, false, false, false, false, false, false] (by kernel_rfl) rfl rfl trivial (fun hHeld => ?_); refine with_tabW vespersref06_Get.tab7 vespersref06_Get.bits7 (fun HT_ HW_ => ?_)
                                generalize wc.drew = w26 at HB hHeld ⊢
                                refine pure_ (i := 0) (N := some 50) (v := ?_) (a' := ?_) #[true, false, false, false, false, false, false, false, false, false] rfl rfl (any_of HT_.out (by kernel_rfl)) (fun _ _ _ h => h) (Or.inl ⟨by rfl, ?_⟩) ?_ ?_
                                rotate_left
                                · intro w'
                                  go_simp
                                  with_reducible rfl
                                rotate_left
                                · simp only [Act.put, List.setIfInBounds_toArray, List.set_cons_zero, List.set_cons_succ, i64_w, i32_w]
                                  rfl
                                refine pure_ (i := 1) (N := some 51) (v := ?_) (a' := ?_) #[true, true, false, false, false, false, false, false, false, false] rfl rfl (any_of HT_.out (by kernel_rfl)) (fun _ _ _ h => h) (Or.inl ⟨by rfl, ?_⟩) ?_ ?_
                                rotate_left
                                · intro w'
                                  go_simp
                                  with_reducible rfl
                                rotate_left
                                · simp only [Act.put, List.setIfInBounds_toArray, List.set_cons_zero, List.set_cons_succ, i64_w, i32_w]
                                  rfl
                                refine pure_ (i := 2) (N := some 52) (v := ?_) (a' := ?_) #[true, true, true, false, false, false, false, false, false, false] rfl rfl (any_of HT_.out (by kernel_rfl)) (fun _ _ _ h => h) (Or.inl ⟨by rfl, ?_⟩) ?_ ?_
                                rotate_left
                                · intro w'
                                  go_simp
                                  with_reducible rfl
                                rotate_left
                                · simp only [Act.put, List.setIfInBounds_toArray, List.set_cons_zero, List.set_cons_succ, i64_w, i32_w]
                                  rfl
                                refine pure_ (i := 4) (N := some 54) (v := ?_) (a' := ?_) #[true, true, true, false, true, false, false, false, false, false] rfl rfl (any_of HT_.out (by kernel_rfl)) (fun _ _ _ h => h) (Or.inl ⟨by rfl, ?_⟩) ?_ ?_
                                rotate_left
                                · intro w'
                                  go_simp
                                  with_reducible rfl
                                rotate_left
                                · simp only [Act.put, List.setIfInBounds_toArray, List.set_cons_zero, List.set_cons_succ, i64_w, i32_w]
                                  rfl
                                refine pure_ (i := 5) (N := some 55) (v := ?_) (a' := ?_) #[true, true, true, false, true, true, false, false, false, false] rfl rfl (any_of HT_.out (by kernel_rfl)) (fun _ _ _ h => h) (Or.inl ⟨by rfl, ?_⟩) ?_ ?_
                                rotate_left
                                · intro w'
                                  go_simp
                                  with_reducible rfl
                                rotate_left
                                · simp only [Act.put, List.setIfInBounds_toArray, List.set_cons_zero, List.set_cons_succ, i64_w, i32_w]
                                  rfl
                                refine pure_ (i := 6) (N := some 56) (v := ?_) (a' := ?_) #[true, true, true, false, true, true, true, false, false, false] rfl rfl (any_of HT_.out (by kernel_rfl)) (fun _ _ _ h => h) (Or.inl ⟨by rfl, ?_⟩) ?_ ?_
                                rotate_left
                                · intro w'
                                  go_simp
                                  with_reducible rfl
                                rotate_left
                                · simp only [Act.put, List.setIfInBounds_toArray, List.set_cons_zero, List.set_cons_succ, i64_w, i32_w]
                                  rfl
                                refine pure_ (i := 7) (N := some 57) (v := ?_) (a' := ?_) #[true, true, true, false, true, true, true, true, false, false] rfl rfl (any_of HT_.out (by kernel_rfl)) (fun _ _ _ h => h) (Or.inl ⟨by rfl, ?_⟩) ?_ ?_
                                rotate_left
                                · intro w'
                                  go_simp
                                  with_reducible rfl
                                rotate_left
                                · simp only [Act.put, List.setIfInBounds_toArray, List.set_cons_zero, List.set_cons_succ, i64_w, i32_w]
                                  rfl
                                refine pure_ (i := 8) (N := some 58) (v := ?_) (a' := ?_) #[true, true, true, false, true, true, true, true, true, false] rfl rfl (any_of HT_.out (by kernel_rfl)) (fun _ _ _ h => h) (Or.inl ⟨by rfl, ?_⟩) ?_ ?_
                                rotate_left
                                · intro w'
                                  go_simp
                                  with_reducible rfl
                                rotate_left
                                · simp only [Act.put, List.setIfInBounds_toArray, List.set_cons_zero, List.set_cons_succ, i64_w, i32_w]
                                  rfl
                                refine one_ (i := 3) (N := some 53) #[true, true, true, true, true, true, true, true, true, false] rfl rfl (one_of HT_.out (by kernel_rfl)) (by decide) (fun K hK => ?_)
                                refine goes_ Tryd.func13 (by kernel_rfl) rfl #[.int .u32 a1, .int .u32 a2, .string (a0.extract 12 ((wrap64 (12 + (wrap64 ((IntKind.u64.wrap ((IntKind.u64.wrap ((IntKind.u64.wrap ((IntKind.u64.wrap (bt a0 0)) + (IntKind.u64.wrap (256 * (IntKind.u64.wrap (bt a0 1)))))) + (IntKind.u64.wrap (65536 * (IntKind.u64.wrap (bt a0 2)))))) + (IntKind.u64.wrap (16777216 * (IntKind.u64.wrap (bt a0 3)))))))))) : Int).toNat)] (by rfl) rfl rfl (by (try simp only [List.map_toArray, List.map_cons, List.map_nil]); first | done | rfl | (simp only [List.length_drop, List.length_take]; rfl)) ?_
                                with_reducible refine (vespersref06_Put.calls kj14 a1 a2 (a0.extract 12 ((wrap64 (12 + (wrap64 ((IntKind.u64.wrap ((IntKind.u64.wrap ((IntKind.u64.wrap ((IntKind.u64.wrap (bt a0 0)) + (IntKind.u64.wrap (256 * (IntKind.u64.wrap (bt a0 1)))))) + (IntKind.u64.wrap (65536 * (IntKind.u64.wrap (bt a0 2)))))) + (IntKind.u64.wrap (16777216 * (IntKind.u64.wrap (bt a0 3)))))))))) : Int).toNat) t146 _ A21.out).mono ?_
                                rintro e w27 ⟨rfl, hb⟩
                                refine ⟨_, rfl, ?_⟩
                                have n0_ := Aside0.mk (below_step (by repeat (first | (with_reducible first | exact HB.out | apply below_alloc | apply pw_below_drewN | apply below_drew1) | exact HB.out)) hb)
                                clear HB
                                have HB := n0_
                                clear n0_
                                (try clear hb)
                                (try clear hb2)
                                (try clear hk)
                                (try clear hi)
                                refine hK.out _ _ trivial (fun hHeld => ?_)
                                clear hK K
                                refine norm_ (a' := ?_) ?_ ?_
                                rotate_left
                                · show Act.put _ (some 53) _ = _
                                  simp only [Act.put, List.setIfInBounds_toArray, List.set_cons_zero, List.set_cons_succ, i64_w, i32_w]
                                  rfl
                                refine pure_ (i := 9) (N := some 59) (v := ?_) (a' := ?_) #[true, true, true, true, true, true, true, true, true, true] rfl rfl (any_of HT_.out (by kernel_rfl)) (fun _ _ _ h => h) (Or.inl ⟨by rfl, ?_⟩) ?_ ?_
                                rotate_left
                                · intro w'
                                  go_simp
                                  with_reducible rfl
                                rotate_left
                                · simp only [Act.put, List.setIfInBounds_toArray, List.set_cons_zero, List.set_cons_succ, i64_w, i32_w]
                                  rfl
                                refine done_ (done_of HT_.out (by kernel_rfl)) ?_
                                try go_wp2
                                go_ret2
                                exact ⟨by first | rfl | (simp [errW_none, errW_some] <;> rfl) | (simp only [← hji22]; first | rfl | (simp [errW_none, errW_some] <;> rfl)) | (simp [*, errW_none, errW_some] <;> rfl) | (simp only [IntWalk.i64_left]; rfl), by repeat (first | (with_reducible first | exact HB.out | apply below_alloc | apply pw_below_drewN | apply below_drew1) | exact HB.out)⟩
                              · rw [if_neg c25] at H
                                have c25b0 : (t146.toList == (a0.extract 0 ((ji22) : Int).toNat).toList) = false := beq_eq_false_iff_ne.mpr c25
                                have c25b1 : (t146.toList != (a0.extract 0 ((ji22) : Int).toNat).toList) = true := bne_iff_ne.mpr c25
                                simp only [Option.some.injEq, Prod.mk.injEq] at H
                                obtain ⟨rfl, rfl⟩ := H
                                try go_wp2
                                have n0_ := Aside0.mk (below_drew1 HB.out)
                                clear HB
                                have HB := n0_
                                clear n0_
                                refine start_ (n := 10) (S := fun w' => True) (ds := []) #[false, false, false, false, false, false, false, false, false, false] (by kernel_rfl) rfl rfl trivial (fun hHeld => ?_); refine with_tabW vespersref06_Get.tab7 vespersref06_Get.bits7 (fun HT_ HW_ => ?_)
                                generalize wc.drew = w28 at HB hHeld ⊢
                                refine pure_ (i := 0) (N := some 50) (v := ?_) (a' := ?_) #[true, false, false, false, false, false, false, false, false, false] rfl rfl (any_of HT_.out (by kernel_rfl)) (fun _ _ _ h => h) (Or.inl ⟨by rfl, ?_⟩) ?_ ?_
                                rotate_left
                                · intro w'
                                  go_simp
                                  with_reducible rfl
                                rotate_left
                                · simp only [Act.put, List.setIfInBounds_toArray, List.set_cons_zero, List.set_cons_succ, i64_w, i32_w]
                                  rfl
                                refine pure_ (i := 1) (N := some 51) (v := ?_) (a' := ?_) #[true, true, false, false, false, false, false, false, false, false] rfl rfl (any_of HT_.out (by kernel_rfl)) (fun _ _ _ h => h) (Or.inl ⟨by rfl, ?_⟩) ?_ ?_
                                rotate_left
                                · intro w'
                                  go_simp
                                  with_reducible rfl
                                rotate_left
                                · simp only [Act.put, List.setIfInBounds_toArray, List.set_cons_zero, List.set_cons_succ, i64_w, i32_w]
                                  rfl
                                refine pure_ (i := 2) (N := some 52) (v := ?_) (a' := ?_) #[true, true, true, false, false, false, false, false, false, false] rfl rfl (any_of HT_.out (by kernel_rfl)) (fun _ _ _ h => h) (Or.inl ⟨by rfl, ?_⟩) ?_ ?_
                                rotate_left
                                · intro w'
                                  go_simp
                                  with_reducible rfl
                                rotate_left
                                · simp only [Act.put, List.setIfInBounds_toArray, List.set_cons_zero, List.set_cons_succ, i64_w, i32_w]
                                  rfl
                                refine pure_ (i := 4) (N := some 54) (v := ?_) (a' := ?_) #[true, true, true, false, true, false, false, false, false, false] rfl rfl (any_of HT_.out (by kernel_rfl)) (fun _ _ _ h => h) (Or.inl ⟨by rfl, ?_⟩) ?_ ?_
                                rotate_left
                                · intro w'
                                  go_simp
                                  with_reducible rfl
                                rotate_left
                                · simp only [Act.put, List.setIfInBounds_toArray, List.set_cons_zero, List.set_cons_succ, i64_w, i32_w]
                                  rfl
                                refine pure_ (i := 5) (N := some 55) (v := ?_) (a' := ?_) #[true, true, true, false, true, true, false, false, false, false] rfl rfl (any_of HT_.out (by kernel_rfl)) (fun _ _ _ h => h) (Or.inl ⟨by rfl, ?_⟩) ?_ ?_
                                rotate_left
                                · intro w'
                                  go_simp
                                  with_reducible rfl
                                rotate_left
                                · simp only [Act.put, List.setIfInBounds_toArray, List.set_cons_zero, List.set_cons_succ, i64_w, i32_w]
                                  rfl
                                refine pure_ (i := 6) (N := some 56) (v := ?_) (a' := ?_) #[true, true, true, false, true, true, true, false, false, false] rfl rfl (any_of HT_.out (by kernel_rfl)) (fun _ _ _ h => h) (Or.inl ⟨by rfl, ?_⟩) ?_ ?_
                                rotate_left
                                · intro w'
                                  go_simp
                                  with_reducible rfl
                                rotate_left
                                · simp only [Act.put, List.setIfInBounds_toArray, List.set_cons_zero, List.set_cons_succ, i64_w, i32_w]
                                  rfl
                                refine pure_ (i := 7) (N := some 57) (v := ?_) (a' := ?_) #[true, true, true, false, true, true, true, true, false, false] rfl rfl (any_of HT_.out (by kernel_rfl)) (fun _ _ _ h => h) (Or.inl ⟨by rfl, ?_⟩) ?_ ?_
                                rotate_left
                                · intro w'
                                  go_simp
                                  with_reducible rfl
                                rotate_left
                                · simp only [Act.put, List.setIfInBounds_toArray, List.set_cons_zero, List.set_cons_succ, i64_w, i32_w]
                                  rfl
                                refine pure_ (i := 8) (N := some 58) (v := ?_) (a' := ?_) #[true, true, true, false, true, true, true, true, true, false] rfl rfl (any_of HT_.out (by kernel_rfl)) (fun _ _ _ h => h) (Or.inl ⟨by rfl, ?_⟩) ?_ ?_
                                rotate_left
                                · intro w'
                                  go_simp
                                  with_reducible rfl
                                rotate_left
                                · simp only [Act.put, List.setIfInBounds_toArray, List.set_cons_zero, List.set_cons_succ, i64_w, i32_w]
                                  rfl
                                refine one_ (i := 3) (N := some 53) #[true, true, true, true, true, true, true, true, true, false] rfl rfl (one_of HT_.out (by kernel_rfl)) (by decide) (fun K hK => ?_)
                                refine goes_ Tryd.func13 (by kernel_rfl) rfl #[.int .u32 a1, .int .u32 a2, .string (a0.extract 12 ((wrap64 (12 + (wrap64 ((IntKind.u64.wrap ((IntKind.u64.wrap ((IntKind.u64.wrap ((IntKind.u64.wrap (bt a0 0)) + (IntKind.u64.wrap (256 * (IntKind.u64.wrap (bt a0 1)))))) + (IntKind.u64.wrap (65536 * (IntKind.u64.wrap (bt a0 2)))))) + (IntKind.u64.wrap (16777216 * (IntKind.u64.wrap (bt a0 3)))))))))) : Int).toNat)] (by rfl) rfl rfl (by (try simp only [List.map_toArray, List.map_cons, List.map_nil]); first | done | rfl | (simp only [List.length_drop, List.length_take]; rfl)) ?_
                                with_reducible refine (vespersref06_Put.calls kj14 a1 a2 (a0.extract 12 ((wrap64 (12 + (wrap64 ((IntKind.u64.wrap ((IntKind.u64.wrap ((IntKind.u64.wrap ((IntKind.u64.wrap (bt a0 0)) + (IntKind.u64.wrap (256 * (IntKind.u64.wrap (bt a0 1)))))) + (IntKind.u64.wrap (65536 * (IntKind.u64.wrap (bt a0 2)))))) + (IntKind.u64.wrap (16777216 * (IntKind.u64.wrap (bt a0 3)))))))))) : Int).toNat) t146 _ A21.out).mono ?_
                                rintro e w29 ⟨rfl, hb⟩
                                refine ⟨_, rfl, ?_⟩
                                have n0_ := Aside0.mk (below_step (by repeat (first | (with_reducible first | exact HB.out | apply below_alloc | apply pw_below_drewN | apply below_drew1) | exact HB.out)) hb)
                                clear HB
                                have HB := n0_
                                clear n0_
                                (try clear hb)
                                (try clear hb2)
                                (try clear hk)
                                (try clear hi)
                                refine hK.out _ _ trivial (fun hHeld => ?_)
                                clear hK K
                                refine norm_ (a' := ?_) ?_ ?_
                                rotate_left
                                · show Act.put _ (some 53) _ = _
                                  simp only [Act.put, List.setIfInBounds_toArray, List.set_cons_zero, List.set_cons_succ, i64_w, i32_w]
                                  rfl
                                refine pure_ (i := 9) (N := some 59) (v := ?_) (a' := ?_) #[true, true, true, true, true, true, true, true, true, true] rfl rfl (any_of HT_.out (by kernel_rfl)) (fun _ _ _ h => h) (Or.inl ⟨by rfl, ?_⟩) ?_ ?_
                                rotate_left
                                · intro w'
                                  go_simp
                                  with_reducible rfl
                                rotate_left
                                · simp only [Act.put, List.setIfInBounds_toArray, List.set_cons_zero, List.set_cons_succ, i64_w, i32_w]
                                  rfl
                                refine done_ (done_of HT_.out (by kernel_rfl)) ?_
                                try go_wp2
                                go_ret2
                                exact ⟨by first | rfl | (simp [errW_none, errW_some] <;> rfl) | (simp only [← hji22]; first | rfl | (simp [errW_none, errW_some] <;> rfl)) | (simp [*, errW_none, errW_some] <;> rfl) | (simp only [IntWalk.i64_left]; rfl), by repeat (first | (with_reducible first | exact HB.out | apply below_alloc | apply pw_below_drewN | apply below_drew1) | exact HB.out)⟩
                            · rw [if_neg c24] at H
                              exact absurd H (by simp)
                          · rw [if_neg c23] at H
                            exact absurd H (by simp)
                        · rw [if_neg c20] at H
                          exact absurd H (by simp)
                      · rw [if_neg c19] at H
                        exact absurd H (by simp)
              · rw [if_neg c13] at H
                exact absurd H (by simp)
            · rw [if_neg c11] at H
              exact absurd H (by simp)
          · rw [if_neg c9] at H
            exact absurd H (by simp)
        · rw [if_neg c7] at H
          exact absurd H (by simp)

end Go.Proofs.YtapdioaiimcehaaDoor.Own
