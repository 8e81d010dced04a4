import Derived.Test.YtinjbpbpgogdhaaRc6
import Derived.Test.YtinjbpbpgogdhaaRp0
namespace Go.Proofs.Ytinjbpbpgogdhaa.Own
open Go.RowKit Go.Proofs.YtinjbpbpgogdhaaW.PrintWords Go.Proofs.YtinjbpbpgogdhaaW.PrintLast Go.Proofs.YtinjbpbpgogdhaaW.PrintMore
set_option linter.unusedVariables false
set_option linter.unusedSimpArgs false
/-- A walker, as it lies; its rows came in by w0. -/
structure Wk0 (w0 w : World) (g : Nat) (a0 a1 a2 a3 a8 : Int) (A4 A5 A6 A7 : Option Addr) (c4 c5 c6 c7 : Nat) (l4 l5 l7 : List Int) (l6 : List S58) (day y m d mi : Int) : Prop where
  hg : w.heap[g]? = some (.cells #[.int .i64 a0, .int .i64 a1, .int .i64 a2, .int .i64 a3, .slice A4 l4.length c4, .slice A5 l5.length c5, .slice A6 l6.length c6, .slice A7 l7.length c7, .int .i64 a8, .int .i64 day, .int .i64 y, .int .i64 m, .int .i64 d, .int .i64 mi] 62 (0, 0))
  rc : RC w0 A4 A5 A6 A7 c4 c5 c6 c7 l4 l5 l7 l6
  hb : Below w0.heap.size w0 w
  ng : w0.heap.size ≤ g
theorem Wk0.below {w0 w W : World} {g : Nat} {a0 a1 a2 a3 a8 : Int} {A4 A5 A6 A7 : Option Addr} {c4 c5 c6 c7 : Nat} {l4 l5 l7 : List Int} {l6 : List S58} {day y m d mi : Int} (h : Wk0 w0 w g a0 a1 a2 a3 a8 A4 A5 A6 A7 c4 c5 c6 c7 l4 l5 l7 l6 day y m d mi) (hb : Below w.heap.size w W) : Wk0 w0 W g a0 a1 a2 a3 a8 A4 A5 A6 A7 c4 c5 c6 c7 l4 l5 l7 l6 day y m d mi := ⟨keep_below hb h.hg, h.rc, h.hb.trans (hb.mono h.hb.size), h.ng⟩
theorem Wk0.wk {w0 w : World} {g : Nat} {a0 a1 a2 a3 a8 : Int} {A4 A5 A6 A7 : Option Addr} {c4 c5 c6 c7 : Nat} {l4 l5 l7 : List Int} {l6 : List S58} {day y m d mi : Int} (h : Wk0 w0 w g a0 a1 a2 a3 a8 A4 A5 A6 A7 c4 c5 c6 c7 l4 l5 l7 l6 day y m d mi) : Wk w g a0 a1 a2 a3 a8 A4 A5 A6 A7 c4 c5 c6 c7 l4 l5 l7 l6 day y m d mi := ⟨h.hg, h.rc.below h.hb⟩
/-- usual, told. -/
def usualB (a0 : Int) (l4 l5 : List Int) (l6 : List S58) (day sm sd n m d : Int) : Bool :=
  if l5.length = 0 ∧ l6.length = 0 then
    (if a0 = 2 then wdZ n == wdZ day else if a0 = 3 then d == sd else if a0 = 4 then (decide (d = sd) && (decide (0 < l4.length) || (m == sm))) else true)
  else true
noncomputable def us4C : Code := (Try.f50.body.bind (regC 4)).getD .skip
set_option maxHeartbeats 4000000 in
set_option maxRecDepth 100000 in
theorem us4_wp {w : World} {g : Nat} {cs : Array Value} {n day : Int} {Q : Exit → Act → World → Prop} {c2 c3 c4 c5 c6 c8 c9 c10 c11 c12 c13 c14 c15 c16 c17 c18 c19 c20 c21 c22 c23 c24 c25 c26 c27 c28 c29 c30 c31 c32 c33 c34 c35 c36 c37 c38 c39 c40 c41 c42 c43 c44 c45 c46 c47 c48 c49 c50 c51 c52 c53 c54 c55 c56 c57 c58 c59 c60 c61 c62 c63 c64 c65 c66 c67 c68 c69 c70 c71 c72 c73 c74 c75 c76 c77 c78 c79 c80 c81 c82 c83 c84 c85 c86 c87 c88 c89 : Value}
    (HG : Hid (w.heap[g]? = some (.cells cs 62 (0, 0)))) (h9 : cs[9]? = some (.int .i64 day))
    (HP : Hid (∀ c (a : Act) (N : Option Tmp) (v : Value) (w : World), Q (.panic c) (a.put N v) w → Q (.panic c) a w)) (HE : Hid (∀ (d31 d32 d33 d34 d35 d36 d37 d38 d39 d40 d41 d42 : Value) (w' : World), Hid (Below w.heap.size w w') → Q .normal ⟨#[.pointer (some ⟨g, 0, none⟩), .int .i64 n, c2, c3, c4, c5, .bool (wdZ n == wdZ day), .bool true, c8, c9, c10, c11, c12, c13, c14, c15, c16, c17, c18, c19, c20, c21, c22, c23, c24, c25, c26, c27, c28, c29, c30, d31, d32, d33, d34, d35, d36, d37, d38, d39, d40, d41, d42, c43, c44, c45, c46, c47, c48, c49, c50, c51, c52, c53, c54, c55, c56, c57, c58, c59, c60, c61, c62, c63, c64, c65, c66, c67, c68, c69, c70, c71, c72, c73, c74, c75, c76, c77, c78, c79, c80, c81, c82, c83, c84, c85, c86, c87, c88, c89], []⟩ w')) :
    Code.wp Try.prog us4C Q ⟨#[.pointer (some ⟨g, 0, none⟩), .int .i64 n, c2, c3, c4, c5, c6, .bool true, c8, c9, c10, c11, c12, c13, c14, c15, c16, c17, c18, c19, c20, c21, c22, c23, c24, c25, c26, c27, c28, c29, c30, c31, c32, c33, c34, c35, c36, c37, c38, c39, c40, c41, c42, c43, c44, c45, c46, c47, c48, c49, c50, c51, c52, c53, c54, c55, c56, c57, c58, c59, c60, c61, c62, c63, c64, c65, c66, c67, c68, c69, c70, c71, c72, c73, c74, c75, c76, c77, c78, c79, c80, c81, c82, c83, c84, c85, c86, c87, c88, c89], []⟩ w := by
  unfold us4C
  conv => arg 2; whnf
  refine start_ (n := 13) (S := fun w' => w'.cell? ⟨g, 9, none⟩ = some (.int .i64 day)) (ds := []) #[false, false, false, false, false, false, false, false, false, false, false, false, false] (by kernel_rfl) rfl rfl ?_ (fun hHeld => ?_)
  · exact cell_eq (blk_cell (show w.drew.heap[g]? = _ from HG.out) 9) h9
  have HW3 := Lib.hid ((Below.refl w.heap.size w).drew)
  generalize w.drew = w3 at hHeld HW3 ⊢
  refine pure_ (i := 0) (N := some 31) (v := ?_) (a' := ?_) #[true, false, false, false, false, false, false, false, false, false, false, false, false] rfl rfl (by kernel_rfl) (fun c a w h => HP.out c a _ _ w h) (Or.inl ⟨by rfl, ?_⟩) ?_ ?_
  rotate_left
  · intro w'
    go_simp
    with_reducible rfl
  rotate_left
  · simp only [Act.put, List.setIfInBounds_toArray, List.set_cons_zero, List.set_cons_succ, i64_w, i32_w]
    rfl
  refine pure_ (i := 1) (N := some 32) (v := ?_) (a' := ?_) #[true, true, false, false, false, false, false, false, false, false, false, false, false] rfl rfl (by kernel_rfl) (fun c a w h => HP.out c a _ _ w h) (Or.inl ⟨by rfl, ?_⟩) ?_ ?_
  rotate_left
  · intro w'
    go_simp
    with_reducible rfl
  rotate_left
  · simp only [Act.put, List.setIfInBounds_toArray, List.set_cons_zero, List.set_cons_succ, i64_w, i32_w]
    rfl
  refine pure_ (i := 2) (N := some 33) (v := ?_) (a' := ?_) #[true, true, true, false, false, false, false, false, false, false, false, false, false] rfl rfl (by kernel_rfl) (fun c a w h => HP.out c a _ _ w h) (Or.inl ⟨by rfl, ?_⟩) ?_ ?_
  rotate_left
  · intro w'
    go_simp
    with_reducible rfl
  rotate_left
  · simp only [Act.put, List.setIfInBounds_toArray, List.set_cons_zero, List.set_cons_succ, i64_w, i32_w]
    rfl
  refine pure_ (i := 3) (N := some 34) (v := ?_) (a' := ?_) #[true, true, true, true, false, false, false, false, false, false, false, false, false] rfl rfl (by kernel_rfl) (fun c a w h => HP.out c a _ _ w h) (Or.inl ⟨by rfl, ?_⟩) ?_ ?_
  rotate_left
  · intro w'
    go_simp
    with_reducible rfl
  rotate_left
  · simp only [Act.put, List.setIfInBounds_toArray, List.set_cons_zero, List.set_cons_succ, i64_w, i32_w]
    rfl
  refine pure_ (i := 5) (N := some 36) (v := ?_) (a' := ?_) #[true, true, true, true, false, true, false, false, false, false, false, false, false] rfl rfl (by kernel_rfl) (fun c a w h => HP.out c a _ _ w h) (Or.inl ⟨by rfl, ?_⟩) ?_ ?_
  rotate_left
  · intro w'
    go_simp
    with_reducible rfl
  rotate_left
  · simp only [Act.put, List.setIfInBounds_toArray, List.set_cons_zero, List.set_cons_succ, i64_w, i32_w]
    rfl
  refine pure_ (i := 6) (N := some 37) (v := ?_) (a' := ?_) #[true, true, true, true, false, true, true, false, false, false, false, false, false] rfl rfl (by kernel_rfl) (fun c a w h => HP.out c a _ _ w h) (Or.inl ⟨by rfl, ?_⟩) ?_ ?_
  rotate_left
  · intro w'
    go_simp
    with_reducible rfl
  rotate_left
  · simp only [Act.put, List.setIfInBounds_toArray, List.set_cons_zero, List.set_cons_succ, i64_w, i32_w]
    rfl
  refine pure_ (i := 7) (N := some 38) (v := ?_) (a' := ?_) #[true, true, true, true, false, true, true, true, false, false, false, false, false] rfl rfl (by kernel_rfl) (fun c a w h => HP.out c a _ _ w h) (Or.inl ⟨by rfl, ?_⟩) ?_ ?_
  rotate_left
  · intro w'
    go_simp
    with_reducible rfl
  rotate_left
  · simp only [Act.put, List.setIfInBounds_toArray, List.set_cons_zero, List.set_cons_succ, i64_w, i32_w]
    rfl
  refine take_ (i := 8) (N := some 39) (v := ?_) (a' := ?_) #[true, true, true, true, false, true, true, true, true, false, false, false, false] rfl rfl (by kernel_rfl) (fun c a w h => HP.out c a _ _ w h) (Or.inl ⟨by rfl, ?_⟩) hHeld ?_ ?_
  rotate_left
  · intro w' s0
    go_simp
    with_reducible rfl
  rotate_left
  · simp only [Act.put, List.setIfInBounds_toArray, List.set_cons_zero, List.set_cons_succ, i64_w, i32_w]
    rfl
  refine one_ (i := 4) (N := some 35) #[true, true, true, true, true, true, true, true, true, false, false, false, false] rfl rfl (by kernel_rfl) (by decide) (fun K hK => ?_)
  refine goes_ Try.func46 (by kernel_rfl) rfl #[.int .i64 n] (by rfl) rfl rfl (by (try simp only [List.map_toArray, List.map_cons, List.map_nil]); first | done | rfl) ?_
  refine (civil_Weekday.calls n (wdZ n) w3 rfl).mono ?_
  rintro e w4 ⟨rfl, hdr⟩
  refine ⟨_, rfl, ?_⟩
  have HW4 := Lib.hid (HW3.out.trans ((drawn_below hdr).mono HW3.out.size))
  refine hK.out _ _ (cell_eq (blk_cell (keep_below HW4.out HG.out) 9) h9) (fun hHeld => ?_)
  clear hK K hdr
  refine one_ (i := 9) (N := some 40) #[true, true, true, true, true, true, true, true, true, true, false, false, false] rfl rfl (by kernel_rfl) (by decide) (fun K hK => ?_)
  refine goes_ Try.func46 (by kernel_rfl) rfl #[.int .i64 day] (by rfl) rfl rfl (by (try simp only [List.map_toArray, List.map_cons, List.map_nil]); first | done | rfl) ?_
  refine (civil_Weekday.calls day (wdZ day) w4 rfl).mono ?_
  rintro e w5 ⟨rfl, hdr⟩
  refine ⟨_, rfl, ?_⟩
  have HW5 := Lib.hid (HW4.out.trans ((drawn_below hdr).mono HW4.out.size))
  refine hK.out _ _ (cell_eq (blk_cell (keep_below HW5.out HG.out) 9) h9) (fun hHeld => ?_)
  clear hK K hdr
  refine pure_ (i := 10) (N := some 41) (v := ?_) (a' := ?_) #[true, true, true, true, true, true, true, true, true, true, true, false, false] rfl rfl (by kernel_rfl) (fun c a w h => HP.out c a _ _ w h) (Or.inl ⟨by rfl, ?_⟩) ?_ ?_
  rotate_left
  · intro w'
    go_simp
    with_reducible rfl
  rotate_left
  · simp only [Act.put, List.setIfInBounds_toArray, List.set_cons_zero, List.set_cons_succ, i64_w, i32_w]
    rfl
  refine pure_ (i := 11) (N := some 42) (v := ?_) (a' := ?_) #[true, true, true, true, true, true, true, true, true, true, true, true, false] rfl rfl (by kernel_rfl) (fun c a w h => HP.out c a _ _ w h) (Or.inl ⟨by rfl, ?_⟩) ?_ ?_
  rotate_left
  · intro w'
    go_simp
    with_reducible rfl
  rotate_left
  · simp only [Act.put, List.setIfInBounds_toArray, List.set_cons_zero, List.set_cons_succ, i64_w, i32_w]
    rfl
  refine pure_ (i := 12) (N := some 6) (v := ?_) (a' := ?_) #[true, true, true, true, true, true, true, true, true, true, true, true, true] rfl rfl (by kernel_rfl) (fun c a w h => HP.out c a _ _ w h) (Or.inl ⟨by rfl, ?_⟩) ?_ ?_
  rotate_left
  · intro w'
    go_simp
    with_reducible rfl
  rotate_left
  · simp only [Act.put, List.setIfInBounds_toArray, List.set_cons_zero, List.set_cons_succ, i64_w, i32_w]
    rfl
  refine done_ (by kernel_rfl) ?_
  exact HE.out _ _ _ _ _ _ _ _ _ _ _ _ _ HW5
set_option maxHeartbeats 8000000 in
set_option maxRecDepth 100000 in
theorem usual_any {g : Nat} {a0 a1 a2 a3 a8 : Int} {A4 A5 A6 A7 : Option Addr} {c4 c5 c6 c7 : Nat} {l4 l5 l7 : List Int} {l6 : List S58} {day sy sm sd mi : Int} (n y m d : Int) (w : World) (hW : Wk w g a0 a1 a2 a3 a8 A4 A5 A6 A7 c4 c5 c6 c7 l4 l5 l7 l6 day sy sm sd mi) :
    Calls Try.prog 50 #[.pointer (some ⟨g, 0, none⟩), .int .i64 n, .agg #[.int .i64 y, .int .i64 m, .int .i64 d]] w fun e w' => e = .returned (.bool (usualB a0 l4 l5 l6 day sm sd n m d)) ∧ Below w.heap.size w w' := by
  have HW := Lib.hid hW
  obtain ⟨rr, hrr⟩ : ∃ x, x = usualB a0 l4 l5 l6 day sm sd n m d := ⟨_, rfl⟩
  have HRR := Lib.hid hrr
  rw [← hrr]
  clear hW hrr
  go_enter Try.func50, Try.ntmps50
  go_upto_region 1 with (fail)
  have H5 : Hid ((w.alloc (.cells #[.int .i64 y, .int .i64 m, .int .i64 d] 37)).heap[w.heap.size]? = some (.cells #[.int .i64 y, .int .i64 m, .int .i64 d] 37 (0, 0))) := Lib.hid (alloc_blk _ _ _)
  have HB1 : Hid (Below w.heap.size w (w.alloc (.cells #[.int .i64 y, .int .i64 m, .int .i64 d] 37))) := Lib.hid below_new_
  obtain ⟨g5, hg5⟩ : ∃ x, x = w.heap.size := ⟨_, rfl⟩
  rw [← hg5] at H5 ⊢
  clear hg5
  generalize w.alloc (.cells #[.int .i64 y, .int .i64 m, .int .i64 d] 37) = w1 at H5 HB1 ⊢
  have HW1 := Lib.hid (HW.out.below HB1.out)
  have q0 := cell_eq (blk_cell HW1.out.hg 0) rfl
  have q4 := cell_eq (blk_cell HW1.out.hg 4) rfl
  have q5 := cell_eq (blk_cell HW1.out.hg 5) rfl
  have q6 := cell_eq (blk_cell HW1.out.hg 6) rfl
  have q11 := cell_eq (blk_cell HW1.out.hg 11) rfl
  have q12 := cell_eq (blk_cell HW1.out.hg 12) rfl
  have u1 := cell_eq (blk_cell H5.out 1) rfl
  have u2 := cell_eq (blk_cell H5.out 2) rfl
  obtain ⟨pl, hpl⟩ : ∃ x, x = decide (l5.length = 0 ∧ l6.length = 0) := ⟨_, rfl⟩
  have HPL := Lib.hid hpl
  clear hpl
  go_cut [7] (fun v7 wc => v7 = .bool pl ∧ wc = w1)
  case first =>
    by_cases e5 : l5.length = 0
    · have e5c : (l5.length : Int) = 0 := by omega
      by_cases e6 : l6.length = 0
      · have e6c : ((l6.length : Int) == 0) = true := by rw [e6]; rfl
        go_wp2
        go_meet
        case rel => exact ⟨by rw [HPL.out, decide_eq_true ⟨e5, e6⟩], rfl⟩
      · have e6c : ((l6.length : Int) == 0) = false := by rw [Bool.eq_false_iff]; intro h; have := eq_of_beq h; omega
        go_wp2
        go_meet
        case rel => exact ⟨by rw [HPL.out, decide_eq_false (fun h => e6 h.2)], rfl⟩
    · have e5c : ((l5.length : Int) == 0) = false := by rw [Bool.eq_false_iff]; intro h; have := eq_of_beq h; omega
      go_wp2
      go_meet
      case rel => exact ⟨by rw [HPL.out, decide_eq_false (fun h => e5 h.1)], rfl⟩
  case rest =>
  obtain ⟨rfl, rfl⟩ := hcut
  cases pl with
  | false =>
    have np : ¬ (l5.length = 0 ∧ l6.length = 0) := of_decide_eq_false HPL.out.symm
    by_cases e2 : a0 = 2
    · subst e2
      go_upto_region 4 with (fail)
      have HF : Hid (rr = true) := Lib.hid (by rw [HRR.out]; unfold usualB; rw [if_neg np])
      go_quiet (fail)
      go_wp2
      go_ret
      refine ⟨?_, pw_below_drewN HB1.out _⟩
      rw [HF.out]
      first | done | rfl
    · by_cases e3 : a0 = 3
      · subst e3
        go_upto_region 6 with (fail)
        have HF : Hid (rr = true) := Lib.hid (by rw [HRR.out]; unfold usualB; rw [if_neg np])
        go_quiet (fail)
        go_wp2
        go_ret
        refine ⟨?_, pw_below_drewN HB1.out _⟩
        rw [HF.out]
        first | done | rfl
      · by_cases e4 : a0 = 4
        · subst e4
          go_upto_region 8 with (fail)
          have HF : Hid (rr = true) := Lib.hid (by rw [HRR.out]; unfold usualB; rw [if_neg np])
          go_quiet (fail)
          go_wp2
          go_ret
          refine ⟨?_, pw_below_drewN HB1.out _⟩
          rw [HF.out]
          first | done | rfl
        · have k2 : (a0 == 2) = false := by simp [e2]
          have k3 : (a0 == 3) = false := by simp [e3]
          have k4 : (a0 == 4) = false := by simp [e4]
          have HF : Hid (rr = true) := Lib.hid (by rw [HRR.out]; unfold usualB; rw [if_neg np])
          go_wp2
          go_ret
          refine ⟨?_, HB1.out⟩
          rw [HF.out]
          first | done | rfl
  | true =>
    have ip : l5.length = 0 ∧ l6.length = 0 := of_decide_eq_true HPL.out.symm
    by_cases e2 : a0 = 2
    · subst e2
      have HF : Hid (rr = (wdZ n == wdZ day)) := Lib.hid (by rw [HRR.out]; unfold usualB; rw [if_pos ip, if_pos rfl])
      go_upto_region 4 with (fail)
      refine us4_wp (Lib.hid HW1.out.hg) rfl (Lib.hid fun c a N v w h => by cases N <;> exact h) (Lib.hid ?_)
      intro d31 d32 d33 d34 d35 d36 d37 d38 d39 d40 d41 d42 w5 HB5
      go_wp2
      go_ret
      refine ⟨?_, HB1.out.trans (HB5.out.mono HB1.out.size)⟩
      rw [HF.out]
      first | done | rfl
    · by_cases e3 : a0 = 3
      · subst e3
        go_upto_region 6 with (fail)
        have HF : Hid (rr = (d == sd)) := Lib.hid (by rw [HRR.out]; unfold usualB; rw [if_pos ip]; rw [if_neg (by decide), if_pos rfl])
        go_quiet (fail)
        go_wp2
        go_ret
        refine ⟨?_, pw_below_drewN HB1.out _⟩
        rw [HF.out]
        first | done | rfl
      · by_cases e4 : a0 = 4
        · subst e4
          by_cases e5 : d = sd
          · have k5 : (d == sd) = true := by rw [e5]; exact beq_self_eq_true _
            by_cases e6 : 0 < l4.length
            · have e6c : (0 : Int) < (l4.length : Int) := by omega
              go_upto_region 8 with (fail)
              have HF : Hid (rr = true) := Lib.hid (by rw [HRR.out]; unfold usualB; rw [if_pos ip]; rw [if_neg (by decide), if_neg (by decide), if_pos rfl]; rw [decide_eq_true e5, decide_eq_true e6]; rfl)
              go_quiet (fail)
              go_wp2
              go_ret
              refine ⟨?_, pw_below_drewN HB1.out _⟩
              rw [HF.out]
              first | done | rfl
            · have e6c : ¬ (0 : Int) < (l4.length : Int) := by omega
              go_upto_region 8 with (fail)
              have HF : Hid (rr = (m == sm)) := Lib.hid (by rw [HRR.out]; unfold usualB; rw [if_pos ip]; rw [if_neg (by decide), if_neg (by decide), if_pos rfl]; rw [decide_eq_true e5, decide_eq_false e6]; rfl)
              go_quiet (fail)
              go_wp2
              go_ret
              refine ⟨?_, pw_below_drewN HB1.out _⟩
              rw [HF.out]
              first | done | rfl
          · have k5 : (d == sd) = false := by simp [e5]
            go_upto_region 8 with (fail)
            have HF : Hid (rr = false) := Lib.hid (by rw [HRR.out]; unfold usualB; rw [if_pos ip]; rw [if_neg (by decide), if_neg (by decide), if_pos rfl]; rw [decide_eq_false e5]; rfl)
            go_quiet (fail)
            go_wp2
            go_ret
            refine ⟨?_, pw_below_drewN HB1.out _⟩
            rw [HF.out]
            first | done | rfl
        · have k2 : (a0 == 2) = false := by simp [e2]
          have k3 : (a0 == 3) = false := by simp [e3]
          have k4 : (a0 == 4) = false := by simp [e4]
          have HF : Hid (rr = true) := Lib.hid (by rw [HRR.out]; unfold usualB; rw [if_pos ip]; rw [if_neg e2, if_neg e3, if_neg e4])
          go_wp2
          go_ret
          refine ⟨?_, HB1.out⟩
          rw [HF.out]
          first | done | rfl
end Go.Proofs.Ytinjbpbpgogdhaa.Own
