-- own text: texts of this session merged by a program of it (merge.py), declarations that nothing reaches left out (prune.py)
import Derived.Test.YtinjbpbpgogdhaaHa15
import Derived.Test.YtinjbpbpgogdhaaHa16
section
namespace Go.Proofs.Ytinjbpbpgogdhaa.Own
open Go.RowKit Go.Proofs.YtinjbpbpgogdhaaW.PrintWords Go.Proofs.YtinjbpbpgogdhaaW.PrintLast Go.Proofs.YtinjbpbpgogdhaaW.PrintMore
set_option linter.unusedVariables false
set_option linter.unusedSimpArgs false
/-- A walker, as it lies; its rows came in by w0. -/
structure Wk0 (w0 w : World) (g : Nat) (a0 a1 a2 a3 a8 : Int) (A4 A5 A6 A7 : Option Addr) (c4 c5 c6 c7 : Nat) (l4 l5 l7 : List Int) (l6 : List S58) (day y m d mi : Int) : Prop where
  hg : w.heap[g]? = some (.cells #[.int .i64 a0, .int .i64 a1, .int .i64 a2, .int .i64 a3, .slice A4 l4.length c4, .slice A5 l5.length c5, .slice A6 l6.length c6, .slice A7 l7.length c7, .int .i64 a8, .int .i64 day, .int .i64 y, .int .i64 m, .int .i64 d, .int .i64 mi] 62 (0, 0))
  rc : RC w0 A4 A5 A6 A7 c4 c5 c6 c7 l4 l5 l7 l6
  hb : Below w0.heap.size w0 w
  ng : w0.heap.size ≤ g
theorem Wk0.below {w0 w W : World} {g : Nat} {a0 a1 a2 a3 a8 : Int} {A4 A5 A6 A7 : Option Addr} {c4 c5 c6 c7 : Nat} {l4 l5 l7 : List Int} {l6 : List S58} {day y m d mi : Int} (h : Wk0 w0 w g a0 a1 a2 a3 a8 A4 A5 A6 A7 c4 c5 c6 c7 l4 l5 l7 l6 day y m d mi) (hb : Below w.heap.size w W) : Wk0 w0 W g a0 a1 a2 a3 a8 A4 A5 A6 A7 c4 c5 c6 c7 l4 l5 l7 l6 day y m d mi := ⟨keep_below hb h.hg, h.rc, h.hb.trans (hb.mono h.hb.size), h.ng⟩
theorem Wk0.wk {w0 w : World} {g : Nat} {a0 a1 a2 a3 a8 : Int} {A4 A5 A6 A7 : Option Addr} {c4 c5 c6 c7 : Nat} {l4 l5 l7 : List Int} {l6 : List S58} {day y m d mi : Int} (h : Wk0 w0 w g a0 a1 a2 a3 a8 A4 A5 A6 A7 c4 c5 c6 c7 l4 l5 l7 l6 day y m d mi) : Wk w g a0 a1 a2 a3 a8 A4 A5 A6 A7 c4 c5 c6 c7 l4 l5 l7 l6 day y m d mi := ⟨h.hg, h.rc.below h.hb⟩
/-- usual, told. -/
def usualB (a0 : Int) (l4 l5 : List Int) (l6 : List S58) (day sm sd n m d : Int) : Bool :=
  if l5.length = 0 ∧ l6.length = 0 then
    (if a0 = 2 then wdZ n == wdZ day else if a0 = 3 then d == sd else if a0 = 4 then (decide (d = sd) && (decide (0 < l4.length) || (m == sm))) else true)
  else true
noncomputable def us4C : Code := (Try.f50.body.bind (regC 4)).getD .skip
set_option maxHeartbeats 4000000 in
set_option maxRecDepth 100000 in
theorem us4_wp {w : World} {g : Nat} {cs : Array Value} {n day : Int} {Q : Exit → Act → World → Prop} {c2 c3 c4 c5 c6 c8 c9 c10 c11 c12 c13 c14 c15 c16 c17 c18 c19 c20 c21 c22 c23 c24 c25 c26 c27 c28 c29 c30 c31 c32 c33 c34 c35 c36 c37 c38 c39 c40 c41 c42 c43 c44 c45 c46 c47 c48 c49 c50 c51 c52 c53 c54 c55 c56 c57 c58 c59 c60 c61 c62 c63 c64 c65 c66 c67 c68 c69 c70 c71 c72 c73 c74 c75 c76 c77 c78 c79 c80 c81 c82 c83 c84 c85 c86 c87 c88 c89 : Value}
    (HG : Hid (w.heap[g]? = some (.cells cs 62 (0, 0)))) (h9 : cs[9]? = some (.int .i64 day))
    (HP : Hid (∀ c (a : Act) (N : Option Tmp) (v : Value) (w : World), Q (.panic c) (a.put N v) w → Q (.panic c) a w)) (HE : Hid (∀ (d31 d32 d33 d34 d35 d36 d37 d38 d39 d40 d41 d42 : Value) (w' : World), Hid (Below w.heap.size w w') → Q .normal ⟨#[.pointer (some ⟨g, 0, none⟩), .int .i64 n, c2, c3, c4, c5, .bool (wdZ n == wdZ day), .bool true, c8, c9, c10, c11, c12, c13, c14, c15, c16, c17, c18, c19, c20, c21, c22, c23, c24, c25, c26, c27, c28, c29, c30, d31, d32, d33, d34, d35, d36, d37, d38, d39, d40, d41, d42, c43, c44, c45, c46, c47, c48, c49, c50, c51, c52, c53, c54, c55, c56, c57, c58, c59, c60, c61, c62, c63, c64, c65, c66, c67, c68, c69, c70, c71, c72, c73, c74, c75, c76, c77, c78, c79, c80, c81, c82, c83, c84, c85, c86, c87, c88, c89], []⟩ w')) :
    Code.wp Try.prog us4C Q ⟨#[.pointer (some ⟨g, 0, none⟩), .int .i64 n, c2, c3, c4, c5, c6, .bool true, c8, c9, c10, c11, c12, c13, c14, c15, c16, c17, c18, c19, c20, c21, c22, c23, c24, c25, c26, c27, c28, c29, c30, c31, c32, c33, c34, c35, c36, c37, c38, c39, c40, c41, c42, c43, c44, c45, c46, c47, c48, c49, c50, c51, c52, c53, c54, c55, c56, c57, c58, c59, c60, c61, c62, c63, c64, c65, c66, c67, c68, c69, c70, c71, c72, c73, c74, c75, c76, c77, c78, c79, c80, c81, c82, c83, c84, c85, c86, c87, c88, c89], []⟩ w := by
  unfold us4C
  conv => arg 2; whnf
  refine start_ (n := 13) (S := fun w' => w'.cell? ⟨g, 9, none⟩ = some (.int .i64 day)) (ds := []) #[false, false, false, false, false, false, false, false, false, false, false, false, false] (by kernel_rfl) rfl rfl ?_ (fun hHeld => ?_)
  · exact cell_eq (blk_cell (show w.drew.heap[g]? = _ from HG.out) 9) h9
  have HW3 := Lib.hid ((Below.refl w.heap.size w).drew)
  generalize w.drew = w3 at hHeld HW3 ⊢
  refine pure_ (i := 0) (N := some 31) (v := ?_) (a' := ?_) #[true, false, false, false, false, false, false, false, false, false, false, false, false] rfl rfl (by kernel_rfl) (fun c a w h => HP.out c a _ _ w h) (Or.inl ⟨by rfl, ?_⟩) ?_ ?_
  rotate_left
  · intro w'
    go_simp
    with_reducible rfl
  rotate_left
  · simp only [Act.put, List.setIfInBounds_toArray, List.set_cons_zero, List.set_cons_succ, i64_w, i32_w]
    rfl
  refine pure_ (i := 1) (N := some 32) (v := ?_) (a' := ?_) #[true, true, false, false, false, false, false, false, false, false, false, false, false] rfl rfl (by kernel_rfl) (fun c a w h => HP.out c a _ _ w h) (Or.inl ⟨by rfl, ?_⟩) ?_ ?_
  rotate_left
  · intro w'
    go_simp
    with_reducible rfl
  rotate_left
  · simp only [Act.put, List.setIfInBounds_toArray, List.set_cons_zero, List.set_cons_succ, i64_w, i32_w]
    rfl
  refine pure_ (i := 2) (N := some 33) (v := ?_) (a' := ?_) #[true, true, true, false, false, false, false, false, false, false, false, false, false] rfl rfl (by kernel_rfl) (fun c a w h => HP.out c a _ _ w h) (Or.inl ⟨by rfl, ?_⟩) ?_ ?_
  rotate_left
  · intro w'
    go_simp
    with_reducible rfl
  rotate_left
  · simp only [Act.put, List.setIfInBounds_toArray, List.set_cons_zero, List.set_cons_succ, i64_w, i32_w]
    rfl
  refine pure_ (i := 3) (N := some 34) (v := ?_) (a' := ?_) #[true, true, true, true, false, false, false, false, false, false, false, false, false] rfl rfl (by kernel_rfl) (fun c a w h => HP.out c a _ _ w h) (Or.inl ⟨by rfl, ?_⟩) ?_ ?_
  rotate_left
  · intro w'
    go_simp
    with_reducible rfl
  rotate_left
  · simp only [Act.put, List.setIfInBounds_toArray, List.set_cons_zero, List.set_cons_succ, i64_w, i32_w]
    rfl
  refine pure_ (i := 5) (N := some 36) (v := ?_) (a' := ?_) #[true, true, true, true, false, true, false, false, false, false, false, false, false] rfl rfl (by kernel_rfl) (fun c a w h => HP.out c a _ _ w h) (Or.inl ⟨by rfl, ?_⟩) ?_ ?_
  rotate_left
  · intro w'
    go_simp
    with_reducible rfl
  rotate_left
  · simp only [Act.put, List.setIfInBounds_toArray, List.set_cons_zero, List.set_cons_succ, i64_w, i32_w]
    rfl
  refine pure_ (i := 6) (N := some 37) (v := ?_) (a' := ?_) #[true, true, true, true, false, true, true, false, false, false, false, false, false] rfl rfl (by kernel_rfl) (fun c a w h => HP.out c a _ _ w h) (Or.inl ⟨by rfl, ?_⟩) ?_ ?_
  rotate_left
  · intro w'
    go_simp
    with_reducible rfl
  rotate_left
  · simp only [Act.put, List.setIfInBounds_toArray, List.set_cons_zero, List.set_cons_succ, i64_w, i32_w]
    rfl
  refine pure_ (i := 7) (N := some 38) (v := ?_) (a' := ?_) #[true, true, true, true, false, true, true, true, false, false, false, false, false] rfl rfl (by kernel_rfl) (fun c a w h => HP.out c a _ _ w h) (Or.inl ⟨by rfl, ?_⟩) ?_ ?_
  rotate_left
  · intro w'
    go_simp
    with_reducible rfl
  rotate_left
  · simp only [Act.put, List.setIfInBounds_toArray, List.set_cons_zero, List.set_cons_succ, i64_w, i32_w]
    rfl
  refine take_ (i := 8) (N := some 39) (v := ?_) (a' := ?_) #[true, true, true, true, false, true, true, true, true, false, false, false, false] rfl rfl (by kernel_rfl) (fun c a w h => HP.out c a _ _ w h) (Or.inl ⟨by rfl, ?_⟩) hHeld ?_ ?_
  rotate_left
  · intro w' s0
    go_simp
    with_reducible rfl
  rotate_left
  · simp only [Act.put, List.setIfInBounds_toArray, List.set_cons_zero, List.set_cons_succ, i64_w, i32_w]
    rfl
  refine one_ (i := 4) (N := some 35) #[true, true, true, true, true, true, true, true, true, false, false, false, false] rfl rfl (by kernel_rfl) (by decide) (fun K hK => ?_)
  refine goes_ Try.func46 (by kernel_rfl) rfl #[.int .i64 n] (by rfl) rfl rfl (by (try simp only [List.map_toArray, List.map_cons, List.map_nil]); first | done | rfl) ?_
  refine (civil_Weekday.calls n (wdZ n) w3 rfl).mono ?_
  rintro e w4 ⟨rfl, hdr⟩
  refine ⟨_, rfl, ?_⟩
  have HW4 := Lib.hid (HW3.out.trans ((drawn_below hdr).mono HW3.out.size))
  refine hK.out _ _ (cell_eq (blk_cell (keep_below HW4.out HG.out) 9) h9) (fun hHeld => ?_)
  clear hK K hdr
  refine one_ (i := 9) (N := some 40) #[true, true, true, true, true, true, true, true, true, true, false, false, false] rfl rfl (by kernel_rfl) (by decide) (fun K hK => ?_)
  refine goes_ Try.func46 (by kernel_rfl) rfl #[.int .i64 day] (by rfl) rfl rfl (by (try simp only [List.map_toArray, List.map_cons, List.map_nil]); first | done | rfl) ?_
  refine (civil_Weekday.calls day (wdZ day) w4 rfl).mono ?_
  rintro e w5 ⟨rfl, hdr⟩
  refine ⟨_, rfl, ?_⟩
  have HW5 := Lib.hid (HW4.out.trans ((drawn_below hdr).mono HW4.out.size))
  refine hK.out _ _ (cell_eq (blk_cell (keep_below HW5.out HG.out) 9) h9) (fun hHeld => ?_)
  clear hK K hdr
  refine pure_ (i := 10) (N := some 41) (v := ?_) (a' := ?_) #[true, true, true, true, true, true, true, true, true, true, true, false, false] rfl rfl (by kernel_rfl) (fun c a w h => HP.out c a _ _ w h) (Or.inl ⟨by rfl, ?_⟩) ?_ ?_
  rotate_left
  · intro w'
    go_simp
    with_reducible rfl
  rotate_left
  · simp only [Act.put, List.setIfInBounds_toArray, List.set_cons_zero, List.set_cons_succ, i64_w, i32_w]
    rfl
  refine pure_ (i := 11) (N := some 42) (v := ?_) (a' := ?_) #[true, true, true, true, true, true, true, true, true, true, true, true, false] rfl rfl (by kernel_rfl) (fun c a w h => HP.out c a _ _ w h) (Or.inl ⟨by rfl, ?_⟩) ?_ ?_
  rotate_left
  · intro w'
    go_simp
    with_reducible rfl
  rotate_left
  · simp only [Act.put, List.setIfInBounds_toArray, List.set_cons_zero, List.set_cons_succ, i64_w, i32_w]
    rfl
  refine pure_ (i := 12) (N := some 6) (v := ?_) (a' := ?_) #[true, true, true, true, true, true, true, true, true, true, true, true, true] rfl rfl (by kernel_rfl) (fun c a w h => HP.out c a _ _ w h) (Or.inl ⟨by rfl, ?_⟩) ?_ ?_
  rotate_left
  · intro w'
    go_simp
    with_reducible rfl
  rotate_left
  · simp only [Act.put, List.setIfInBounds_toArray, List.set_cons_zero, List.set_cons_succ, i64_w, i32_w]
    rfl
  refine done_ (by kernel_rfl) ?_
  exact HE.out _ _ _ _ _ _ _ _ _ _ _ _ _ HW5
set_option maxHeartbeats 8000000 in
set_option maxRecDepth 100000 in
theorem usual_any {g : Nat} {a0 a1 a2 a3 a8 : Int} {A4 A5 A6 A7 : Option Addr} {c4 c5 c6 c7 : Nat} {l4 l5 l7 : List Int} {l6 : List S58} {day sy sm sd mi : Int} (n y m d : Int) (w : World) (hW : Wk w g a0 a1 a2 a3 a8 A4 A5 A6 A7 c4 c5 c6 c7 l4 l5 l7 l6 day sy sm sd mi) :
    Calls Try.prog 50 #[.pointer (some ⟨g, 0, none⟩), .int .i64 n, .agg #[.int .i64 y, .int .i64 m, .int .i64 d]] w fun e w' => e = .returned (.bool (usualB a0 l4 l5 l6 day sm sd n m d)) ∧ Below w.heap.size w w' := by
  have HW := Lib.hid hW
  obtain ⟨rr, hrr⟩ : ∃ x, x = usualB a0 l4 l5 l6 day sm sd n m d := ⟨_, rfl⟩
  have HRR := Lib.hid hrr
  rw [← hrr]
  clear hW hrr
  go_enter Try.func50, Try.ntmps50
  go_upto_region 1 with (fail)
  have H5 : Hid ((w.alloc (.cells #[.int .i64 y, .int .i64 m, .int .i64 d] 37)).heap[w.heap.size]? = some (.cells #[.int .i64 y, .int .i64 m, .int .i64 d] 37 (0, 0))) := Lib.hid (alloc_blk _ _ _)
  have HB1 : Hid (Below w.heap.size w (w.alloc (.cells #[.int .i64 y, .int .i64 m, .int .i64 d] 37))) := Lib.hid below_new_
  obtain ⟨g5, hg5⟩ : ∃ x, x = w.heap.size := ⟨_, rfl⟩
  rw [← hg5] at H5 ⊢
  clear hg5
  generalize w.alloc (.cells #[.int .i64 y, .int .i64 m, .int .i64 d] 37) = w1 at H5 HB1 ⊢
  have HW1 := Lib.hid (HW.out.below HB1.out)
  have q0 := cell_eq (blk_cell HW1.out.hg 0) rfl
  have q4 := cell_eq (blk_cell HW1.out.hg 4) rfl
  have q5 := cell_eq (blk_cell HW1.out.hg 5) rfl
  have q6 := cell_eq (blk_cell HW1.out.hg 6) rfl
  have q11 := cell_eq (blk_cell HW1.out.hg 11) rfl
  have q12 := cell_eq (blk_cell HW1.out.hg 12) rfl
  have u1 := cell_eq (blk_cell H5.out 1) rfl
  have u2 := cell_eq (blk_cell H5.out 2) rfl
  obtain ⟨pl, hpl⟩ : ∃ x, x = decide (l5.length = 0 ∧ l6.length = 0) := ⟨_, rfl⟩
  have HPL := Lib.hid hpl
  clear hpl
  go_cut [7] (fun v7 wc => v7 = .bool pl ∧ wc = w1)
  case first =>
    by_cases e5 : l5.length = 0
    · have e5c : (l5.length : Int) = 0 := by omega
      by_cases e6 : l6.length = 0
      · have e6c : ((l6.length : Int) == 0) = true := by rw [e6]; rfl
        go_wp2
        go_meet
        case rel => exact ⟨by rw [HPL.out, decide_eq_true ⟨e5, e6⟩], rfl⟩
      · have e6c : ((l6.length : Int) == 0) = false := by rw [Bool.eq_false_iff]; intro h; have := eq_of_beq h; omega
        go_wp2
        go_meet
        case rel => exact ⟨by rw [HPL.out, decide_eq_false (fun h => e6 h.2)], rfl⟩
    · have e5c : ((l5.length : Int) == 0) = false := by rw [Bool.eq_false_iff]; intro h; have := eq_of_beq h; omega
      go_wp2
      go_meet
      case rel => exact ⟨by rw [HPL.out, decide_eq_false (fun h => e5 h.1)], rfl⟩
  case rest =>
  obtain ⟨rfl, rfl⟩ := hcut
  cases pl with
  | false =>
    have np : ¬ (l5.length = 0 ∧ l6.length = 0) := of_decide_eq_false HPL.out.symm
    by_cases e2 : a0 = 2
    · subst e2
      go_upto_region 4 with (fail)
      have HF : Hid (rr = true) := Lib.hid (by rw [HRR.out]; unfold usualB; rw [if_neg np])
      go_quiet (fail)
      go_wp2
      go_ret
      refine ⟨?_, pw_below_drewN HB1.out _⟩
      rw [HF.out]
      first | done | rfl
    · by_cases e3 : a0 = 3
      · subst e3
        go_upto_region 6 with (fail)
        have HF : Hid (rr = true) := Lib.hid (by rw [HRR.out]; unfold usualB; rw [if_neg np])
        go_quiet (fail)
        go_wp2
        go_ret
        refine ⟨?_, pw_below_drewN HB1.out _⟩
        rw [HF.out]
        first | done | rfl
      · by_cases e4 : a0 = 4
        · subst e4
          go_upto_region 8 with (fail)
          have HF : Hid (rr = true) := Lib.hid (by rw [HRR.out]; unfold usualB; rw [if_neg np])
          go_quiet (fail)
          go_wp2
          go_ret
          refine ⟨?_, pw_below_drewN HB1.out _⟩
          rw [HF.out]
          first | done | rfl
        · have k2 : (a0 == 2) = false := by simp [e2]
          have k3 : (a0 == 3) = false := by simp [e3]
          have k4 : (a0 == 4) = false := by simp [e4]
          have HF : Hid (rr = true) := Lib.hid (by rw [HRR.out]; unfold usualB; rw [if_neg np])
          go_wp2
          go_ret
          refine ⟨?_, HB1.out⟩
          rw [HF.out]
          first | done | rfl
  | true =>
    have ip : l5.length = 0 ∧ l6.length = 0 := of_decide_eq_true HPL.out.symm
    by_cases e2 : a0 = 2
    · subst e2
      have HF : Hid (rr = (wdZ n == wdZ day)) := Lib.hid (by rw [HRR.out]; unfold usualB; rw [if_pos ip, if_pos rfl])
      go_upto_region 4 with (fail)
      refine us4_wp (Lib.hid HW1.out.hg) rfl (Lib.hid fun c a N v w h => by cases N <;> exact h) (Lib.hid ?_)
      intro d31 d32 d33 d34 d35 d36 d37 d38 d39 d40 d41 d42 w5 HB5
      go_wp2
      go_ret
      refine ⟨?_, HB1.out.trans (HB5.out.mono HB1.out.size)⟩
      rw [HF.out]
      first | done | rfl
    · by_cases e3 : a0 = 3
      · subst e3
        go_upto_region 6 with (fail)
        have HF : Hid (rr = (d == sd)) := Lib.hid (by rw [HRR.out]; unfold usualB; rw [if_pos ip]; rw [if_neg (by decide), if_pos rfl])
        go_quiet (fail)
        go_wp2
        go_ret
        refine ⟨?_, pw_below_drewN HB1.out _⟩
        rw [HF.out]
        first | done | rfl
      · by_cases e4 : a0 = 4
        · subst e4
          by_cases e5 : d = sd
          · have k5 : (d == sd) = true := by rw [e5]; exact beq_self_eq_true _
            by_cases e6 : 0 < l4.length
            · have e6c : (0 : Int) < (l4.length : Int) := by omega
              go_upto_region 8 with (fail)
              have HF : Hid (rr = true) := Lib.hid (by rw [HRR.out]; unfold usualB; rw [if_pos ip]; rw [if_neg (by decide), if_neg (by decide), if_pos rfl]; rw [decide_eq_true e5, decide_eq_true e6]; rfl)
              go_quiet (fail)
              go_wp2
              go_ret
              refine ⟨?_, pw_below_drewN HB1.out _⟩
              rw [HF.out]
              first | done | rfl
            · have e6c : ¬ (0 : Int) < (l4.length : Int) := by omega
              go_upto_region 8 with (fail)
              have HF : Hid (rr = (m == sm)) := Lib.hid (by rw [HRR.out]; unfold usualB; rw [if_pos ip]; rw [if_neg (by decide), if_neg (by decide), if_pos rfl]; rw [decide_eq_true e5, decide_eq_false e6]; rfl)
              go_quiet (fail)
              go_wp2
              go_ret
              refine ⟨?_, pw_below_drewN HB1.out _⟩
              rw [HF.out]
              first | done | rfl
          · have k5 : (d == sd) = false := by simp [e5]
            go_upto_region 8 with (fail)
            have HF : Hid (rr = false) := Lib.hid (by rw [HRR.out]; unfold usualB; rw [if_pos ip]; rw [if_neg (by decide), if_neg (by decide), if_pos rfl]; rw [decide_eq_false e5]; rfl)
            go_quiet (fail)
            go_wp2
            go_ret
            refine ⟨?_, pw_below_drewN HB1.out _⟩
            rw [HF.out]
            first | done | rfl
        · have k2 : (a0 == 2) = false := by simp [e2]
          have k3 : (a0 == 3) = false := by simp [e3]
          have k4 : (a0 == 4) = false := by simp [e4]
          have HF : Hid (rr = true) := Lib.hid (by rw [HRR.out]; unfold usualB; rw [if_pos ip]; rw [if_neg e2, if_neg e3, if_neg e4])
          go_wp2
          go_ret
          refine ⟨?_, HB1.out⟩
          rw [HF.out]
          first | done | rfl
end Go.Proofs.Ytinjbpbpgogdhaa.Own
end
section
namespace Go.Proofs.Ytinjbpbpgogdhaa.Own
open Go.RowKit Go.Proofs.YtinjbpbpgogdhaaW.PrintWords Go.Proofs.YtinjbpbpgogdhaaW.PrintLast Go.Proofs.YtinjbpbpgogdhaaW.PrintMore
set_option linter.unusedVariables false
set_option linter.unusedSimpArgs false
theorem info3_ : (Try.prog.info? 3).map (fun i => (i.zero, i.size, i.bytes)) = some (some (.int .i64 0), (Kd.int .i64).sz, 8) := by kernel_rfl
/-- Is a day of a period? -/
def dayB (a0 : Int) (l4 l5 : List Int) (l6 : List S58) (day sm sd n : Int) : Bool :=
  match civil_Date.f 3000 n with
  | some (Y, M, D, true) => rightB l4 l5 l6 n Y M D && usualB a0 l4 l5 l6 day sm sd n M D
  | _ => false
/-- The days from one on, so many, that are right. -/
def daysL (P : Int → Bool) : Nat → Int → List Int
  | 0, _ => []
  | k + 1, n => daysL P k n ++ (if P (n + k) = true then [n + k] else [])
/-- What a call that appends to a row leaves: a row, and all else as it was. -/
def RowPost (w0 w : World) (v : Value) (xs : List Int) (e : Ending) (w' : World) : Prop :=
  ∃ v', e = .returned v' ∧ Kd.R (Kd.int .i64) 3 w' w0.heap.size (fun _ => True) v' xs ∧ Kept w w' (fun k => some k = v.ownBlock) ∧ Below w0.heap.size w0 w' ∧ (∀ k, v'.ownBlock = some k → some k = v.ownBlock ∨ w.heap.size ≤ k)
theorem Wk0.kept {w0 w W : World} {g : Nat} {a0 a1 a2 a3 a8 : Int} {A4 A5 A6 A7 : Option Addr} {c4 c5 c6 c7 : Nat} {l4 l5 l7 : List Int} {l6 : List S58} {day y m d mi : Int} (h : Wk0 w0 w g a0 a1 a2 a3 a8 A4 A5 A6 A7 c4 c5 c6 c7 l4 l5 l7 l6 day y m d mi) {v : Value} {xs : List Int} (hR : Kd.R (Kd.int .i64) 3 w w0.heap.size (fun _ => True) v xs) (hk : Kept w W (fun k => some k = v.ownBlock)) (hb : Below w0.heap.size w0 W) : Wk0 w0 W g a0 a1 a2 a3 a8 A4 A5 A6 A7 c4 c5 c6 c7 l4 l5 l7 l6 day y m d mi := by
  refine ⟨(hk.2 g (heap_lt h.hg) (fun e => ?_)).trans h.hg, h.rc, hb, h.ng⟩
  obtain ⟨_, inn, ho, _⟩ := hR
  obtain ⟨cs, hc⟩ := own_typed ho g e.symm
  rw [h.hg] at hc
  simp at hc
def DaysRel (w0 w : World) (v : Value) (xs : List Int) (P : Int → Bool) (n0 : Int) (K : Nat) (i o : Value) (wr : World) : Prop :=
  ∃ (j : Nat), j ≤ K ∧ i = .int .i64 (n0 + j) ∧ Hid (Kd.R (Kd.int .i64) 3 wr w0.heap.size (fun _ => True) o (xs ++ daysL P j n0)) ∧ Hid (Kept w wr (fun k => some k = v.ownBlock)) ∧ Hid (Below w0.heap.size w0 wr) ∧ Hid (∀ k, o.ownBlock = some k → some k = v.ownBlock ∨ w.heap.size ≤ k)
theorem daysL_len (P : Int → Bool) : ∀ (k : Nat) (n : Int), (daysL P k n).length ≤ k
  | 0, _ => Nat.zero_le _
  | k + 1, n => by
    have := daysL_len P k n
    unfold daysL
    rw [List.length_append]
    split <;> simp <;> omega
theorem daysL_no {P : Int → Bool} {k : Nat} {n : Int} (h : P (n + (k : Int)) = false) : daysL P (k + 1) n = daysL P k n := by
  show daysL P k n ++ (if P (n + (k : Int)) = true then [n + (k : Int)] else []) = _
  rw [h, if_neg (by simp), List.append_nil]
theorem daysL_yes {P : Int → Bool} {k : Nat} {n : Int} (h : P (n + (k : Int)) = true) : daysL P (k + 1) n = daysL P k n ++ [n + (k : Int)] := by
  show daysL P k n ++ (if P (n + (k : Int)) = true then [n + (k : Int)] else []) = _
  rw [h, if_pos rfl]
theorem own_step {v o v1 : Value} {a b : Nat} (h : ∀ k, o.ownBlock = some k → some k = v.ownBlock ∨ a ≤ k) (hat : v1.ownBlock = o.ownBlock ∨ ∃ q, v1.ownBlock = some q ∧ b ≤ q) (hab : a ≤ b) : ∀ k, v1.ownBlock = some k → some k = v.ownBlock ∨ a ≤ k := by
  intro k hk
  rcases hat with h1 | ⟨q, h1, h2⟩
  · exact h k (h1.symm.trans hk)
  · have : q = k := Option.some.inj (h1.symm.trans hk)
    exact .inr (by omega)
theorem info37_ : (Try.prog.info? 37).map (·.size) = some 3 := by kernel_rfl
set_option maxHeartbeats 8000000 in
set_option maxRecDepth 100000 in
theorem days_any {w0 : World} {g : Nat} {a0 a1 a2 a3 a8 : Int} {A4 A5 A6 A7 : Option Addr} {c4 c5 c6 c7 : Nat} {l4 l5 l7 : List Int} {l6 : List S58} {day sy sm sd mi : Int} (v : Value) (xs : List Int) (fr n0 : Int) (K many : Nat) (w : World) (hW : Wk0 w0 w g a0 a1 a2 a3 a8 A4 A5 A6 A7 c4 c5 c6 c7 l4 l5 l7 l6 day sy sm sd mi)
    (hR : Kd.R (Kd.int .i64) 3 w w0.heap.size (fun _ => True) v xs) (hxs : xs.length ≤ 100000) (hf0 : -1000000000 ≤ fr) (hf1 : fr ≤ 1000000000) (hm : many ≤ 1000) (hn0 : n0 = if fr < 0 then 0 else fr) (hK : K = (fr + many - n0).toNat) :
    Calls Try.prog 45 #[.pointer (some ⟨g, 0, none⟩), v, .int .i64 fr, .int .i64 (many : Int)] w (RowPost w0 w v (xs ++ daysL (dayB a0 l4 l5 l6 day sm sd) K n0)) := by
  have HW := Lib.hid hW
  have HR := Lib.hid hR
  have hng : 0 ≤ n0 := by rw [hn0]; split <;> omega
  have hng2 : n0 ≤ 1000000000 := by rw [hn0]; split <;> omega
  have hKm : K ≤ many := by rw [hK, hn0]; split <;> omega
  have HKN : Hid (∀ j : Nat, j < K ↔ n0 + (j : Int) < fr + (many : Int)) := Lib.hid (fun j => by rw [hK]; omega)
  have HN0 := Lib.hid hn0
  clear hW hR hK hn0
  obtain ⟨vA, vc, rfl, hx1, hx2⟩ := Kd.R_reads HR.out
  clear hx1 hx2
  have hwm : wrap64 (fr + (many : Int)) = fr + (many : Int) := IntWalk.wrap64_in _ (by omega)
  obtain ⟨P, hP⟩ : ∃ P, P = dayB a0 l4 l5 l6 day sm sd := ⟨_, rfl⟩
  have HP := Lib.hid hP
  rw [← hP]
  clear hP
  go_enter Try.func45, Try.ntmps45
  go_upto_region 1 with (fail)
  go_cut [9] (fun v9 wc => v9 = .int .i64 n0 ∧ wc = w)
  case first =>
    by_cases hneg : fr < 0
    · go_wp2
      go_meet
      case rel => exact ⟨by rw [HN0.out, if_pos hneg], rfl⟩
    · go_wp2
      go_meet
      case rel => exact ⟨by rw [HN0.out, if_neg (show ¬ fr < 0 by omega)], rfl⟩
  case rest =>
  obtain ⟨rfl, rfl⟩ := hcut
  go_wp2
  go_loopw [9, 1] (fun i' o wr => DaysRel w0 wc (.slice vA xs.length vc) xs P n0 K i' o wr) (fun i' _ _ => K - (intOf i' - n0).toNat)
  case atStart => exact ⟨0, Nat.zero_le _, by simp, Lib.hid (by show Kd.R _ _ _ _ _ _ (xs ++ []); rw [List.append_nil]; exact HR.out), Lib.hid (Kept.refl _ _), Lib.hid HW.out.hb, Lib.hid (fun k hk => .inl hk.symm)⟩
  case round =>
  obtain ⟨j, hj, rfl, hRr, HK, HB, HOW⟩ := hrel
  obtain ⟨cur, hcur⟩ : ∃ x, x = xs ++ daysL P j n0 := ⟨_, rfl⟩
  rw [← hcur] at hRr
  have hcl : cur.length ≤ 200000 := by
    have h1 := daysL_len P j n0
    rw [hcur, List.length_append]
    omega
  have HCUR := Lib.hid hcur
  clear hcur
  obtain ⟨oA, oc, rfl, hx1, hx2⟩ := Kd.R_reads hRr.out
  clear hx1 hx2
  have HWr := Lib.hid (HW.out.kept HR.out HK.out HB.out)
  have hwn : wrap64 (n0 + (j : Int) + 1) = n0 + (j : Int) + 1 := IntWalk.wrap64_in _ (by clear hwm; omega)
  by_cases hlt : j < K
  · have hlt2 : n0 + (j : Int) < fr + (many : Int) := (HKN.out j).1 hlt
    obtain ⟨n, hn⟩ : ∃ n, n = n0 + (j : Int) := ⟨_, rfl⟩
    have hnn : 0 ≤ n := by omega
    have HNE := Lib.hid hn
    rw [← hn] at hlt2 hwn ⊢
    clear hn
    by_cases hin : n < 109938
    · obtain ⟨Y, M, D, hdate, hok, _⟩ := civil_Date_ok (k := 3000) (Nat.le_refl _) hnn hin
      have HDT : Hid (∀ W, Calls Try.prog 27 #[.int .i64 n] W fun e w' => e = .returned (.tuple #[.agg #[.int .i64 Y, .int .i64 M, .int .i64 D], .bool true]) ∧ Below W.heap.size W w') := Lib.hid (fun W => civil_Date.calls 3000 n Y M D true W hdate)
      have hln := (len_bd Y M).2
      have HRT : Hid (∀ W, Below wr.heap.size wr W → Calls Try.prog 49 #[.pointer (some ⟨g, 0, none⟩), .int .i64 n, .agg #[.int .i64 Y, .int .i64 M, .int .i64 D]] W fun e w' => e = .returned (.bool (rightB l4 l5 l6 n Y M D)) ∧ Below W.heap.size W w') := Lib.hid (fun W hW => right_any n Y M D (len Y M) W (HWr.out.below hW).wk (civil_Length_f (by decide) Y M) hok.2.2.2.2.1 hok.2.2.2.2.2 hln)
      have HUS : Hid (∀ W, Below wr.heap.size wr W → Calls Try.prog 50 #[.pointer (some ⟨g, 0, none⟩), .int .i64 n, .agg #[.int .i64 Y, .int .i64 M, .int .i64 D]] W fun e w' => e = .returned (.bool (usualB a0 l4 l5 l6 day sm sd n M D)) ∧ Below W.heap.size W w') := Lib.hid (fun W hW => usual_any n Y M D W (HWr.out.below hW).wk)
      have hpn : P n = (rightB l4 l5 l6 n Y M D && usualB a0 l4 l5 l6 day sm sd n M D) := by rw [HP.out]; unfold dayB; rw [hdate]
      clear hdate hok
      go_upto_region 5 with (first | ((with_reducible refine (HDT.out _).mono ?_); rintro e w2 ⟨rfl, hb2⟩; have HB2 := Lib.hid hb2; clear hb2))
      have H10 : Hid ((w2.alloc (.cells #[.int .i64 Y, .int .i64 M, .int .i64 D] 37)).heap[w2.heap.size]? = some (.cells #[.int .i64 Y, .int .i64 M, .int .i64 D] 37 (0, 0))) := Lib.hid (alloc_blk _ _ _)
      have HB3 : Hid (Below wr.heap.size wr (w2.alloc (.cells #[.int .i64 Y, .int .i64 M, .int .i64 D] 37))) := Lib.hid (HB2.out.alloc HB2.out.size _)
      obtain ⟨g10, hg10⟩ : ∃ x, x = w2.heap.size := ⟨_, rfl⟩
      rw [← hg10] at H10 ⊢
      clear hg10 HDT
      generalize w2.alloc (.cells #[.int .i64 Y, .int .i64 M, .int .i64 D] 37) = w3 at H10 HB3 ⊢
      cases hr : rightB l4 l5 l6 n Y M D with
      | false =>
        have HPV : Hid (P n = false) := Lib.hid (by rw [hpn, hr]; rfl)
        rw [hr] at HRT
        clear hr hpn
        go_upto_region 3 with (first | ((with_reducible refine gate_ (.load 37 (.tmp 10)) rfl ?_); (try (refine gate_guard (by rfl) ?_; dsimp only)); refine wpList_load_row rfl 37 (.tmp 10) rfl g10 rfl 37 _ (0, 0) _ H10.out Try.underlying37 rfl info37_ ?_) | ((with_reducible refine (HRT.out _ HB3.out).mono ?_); rintro e w4 ⟨rfl, hb4⟩; have HB4 := Lib.hid (HB3.out.trans (hb4.mono HB3.out.size)); have H104 := Lib.hid (keep_below hb4 H10.out); clear hb4))
        have HPN : Hid (P (n0 + (j : Int)) = false) := Lib.hid (by rw [← HNE.out]; exact HPV.out)
        go_wp2
        go_roundw
        case rel => exact ⟨j + 1, by omega, by rw [HNE.out]; rw [show n0 + ((j + 1 : Nat) : Int) = n0 + (j : Int) + 1 from by omega], Lib.hid (by rw [daysL_no HPN.out, ← HCUR.out]; exact Kd.R_below hRr.out HB4.out), Lib.hid (HK.out.below HB4.out), Lib.hid (HB.out.trans (HB4.out.mono HB.out.size)), HOW⟩
        case measure => rw [HNE.out]; simp [intOf]; omega
      | true =>
        rw [hr] at HRT
        cases hu : usualB a0 l4 l5 l6 day sm sd n M D with
        | false =>
          have HPV : Hid (P n = false) := Lib.hid (by rw [hpn, hr, hu]; rfl)
          rw [hu] at HUS
          clear hr hu hpn
          go_upto_region 3 with (first | ((with_reducible refine gate_ (.load 37 (.tmp 10)) rfl ?_); (try (refine gate_guard (by rfl) ?_; dsimp only)); refine wpList_load_row rfl 37 (.tmp 10) rfl g10 rfl 37 _ (0, 0) _ H10.out Try.underlying37 rfl info37_ ?_) | ((with_reducible refine (HRT.out _ HB3.out).mono ?_); rintro e w4 ⟨rfl, hb4⟩; have HB4 := Lib.hid (HB3.out.trans (hb4.mono HB3.out.size)); have H104 := Lib.hid (keep_below hb4 H10.out); clear hb4) | ((with_reducible refine gate_ (.load 37 (.tmp 10)) rfl ?_); (try (refine gate_guard (by rfl) ?_; dsimp only)); refine wpList_load_row rfl 37 (.tmp 10) rfl g10 rfl 37 _ (0, 0) _ H104.out Try.underlying37 rfl info37_ ?_) | ((with_reducible refine (HUS.out _ HB4.out).mono ?_); rintro e w5 ⟨rfl, hb5⟩; have HB5 := Lib.hid (HB4.out.trans (hb5.mono HB4.out.size)); clear hb5))
          have HPN : Hid (P (n0 + (j : Int)) = false) := Lib.hid (by rw [← HNE.out]; exact HPV.out)
          go_wp2
          go_roundw
          case rel => exact ⟨j + 1, by omega, by rw [HNE.out]; rw [show n0 + ((j + 1 : Nat) : Int) = n0 + (j : Int) + 1 from by omega], Lib.hid (by rw [daysL_no HPN.out, ← HCUR.out]; exact Kd.R_below hRr.out HB5.out), Lib.hid (HK.out.below HB5.out), Lib.hid (HB.out.trans (HB5.out.mono HB.out.size)), HOW⟩
          case measure => rw [HNE.out]; simp [intOf]; omega
        | true =>
          have HPV : Hid (P n = true) := Lib.hid (by rw [hpn, hr, hu]; rfl)
          rw [hu] at HUS
          clear hr hu hpn
          go_upto_region 6 with (first | ((with_reducible refine gate_ (.load 37 (.tmp 10)) rfl ?_); (try (refine gate_guard (by rfl) ?_; dsimp only)); refine wpList_load_row rfl 37 (.tmp 10) rfl g10 rfl 37 _ (0, 0) _ H10.out Try.underlying37 rfl info37_ ?_) | ((with_reducible refine (HRT.out _ HB3.out).mono ?_); rintro e w4 ⟨rfl, hb4⟩; have HB4 := Lib.hid (HB3.out.trans (hb4.mono HB3.out.size)); have H104 := Lib.hid (keep_below hb4 H10.out); clear hb4) | ((with_reducible refine gate_ (.load 37 (.tmp 10)) rfl ?_); (try (refine gate_guard (by rfl) ?_; dsimp only)); refine wpList_load_row rfl 37 (.tmp 10) rfl g10 rfl 37 _ (0, 0) _ H104.out Try.underlying37 rfl info37_ ?_) | ((with_reducible refine (HUS.out _ HB4.out).mono ?_); rintro e w5 ⟨rfl, hb5⟩; have HB5 := Lib.hid (HB4.out.trans (hb5.mono HB4.out.size)); clear hb5))
          have HR5 := Lib.hid (Kd.R_below hRr.out HB5.out)
          have HBW5 := Lib.hid (HB.out.trans (HB5.out.mono HB.out.size))
          have HK5 := Lib.hid (HK.out.below HB5.out)
          have HSZ := Lib.hid HB5.out.size
          have HSW := Lib.hid HK.out.1
          go_wp2_with (((with_reducible refine gate_builtin (b := .append) (xs := #[.tmp 39, .tmp 41]) rfl ?_); (try (refine gate_guard (by rfl) ?_; dsimp only)); at_builtin; refine Kd.R_append (W := w5) (w0 := w0) (Kd.int .i64) w0.heap.size rfl (.tmp 39) (.tmp 41) 22 3 (.int .i64 0) 8 rfl Try.underlying22 info3_ rfl (by decide) (by decide) (.slice oA cur.length oc) cur n [.int .i64 n] (fun _ => True) (fun _ => False) rfl rfl rfl (fun _ h => h.elim) (fun _ _ => trivial) HR5.out HBW5.out HBW5.out.size (by clear hwn hwm; omega) ?_; intro v1 w6 hR6 hb6 hg6 hat6; obtain ⟨cur2, hcur2⟩ : ∃ x, x = cur ++ [n] := ⟨_, rfl⟩; rw [← hcur2] at hR6; have HC2 := Lib.hid hcur2; clear hcur2; have HR6 := Lib.hid hR6; have HB6 := Lib.hid hb6; have HG6 := Lib.hid hg6; have HAT := Lib.hid hat6; clear hR6 hb6 hg6 hat6; obtain ⟨A1, c1, rfl, hx1, hx2⟩ := Kd.R_reads HR6.out; clear hx1 hx2))
          have HPN : Hid (P (n0 + (j : Int)) = true) := Lib.hid (by rw [← HNE.out]; exact HPV.out)
          have HKN6 : Hid (Kept wc w6 (fun k => some k = (Value.slice vA xs.length vc).ownBlock)) := Lib.hid (Kept.of_grown HG6.out HK5.out (fun k hk => (HOW.out k hk)))
          go_roundw
          case rel => exact ⟨j + 1, by omega, by rw [HNE.out]; rw [show n0 + ((j + 1 : Nat) : Int) = n0 + (j : Int) + 1 from by omega], Lib.hid (by rw [daysL_yes HPN.out, ← List.append_assoc, ← HCUR.out, ← HNE.out, ← HC2.out]; exact HR6.out), HKN6, HB6, Lib.hid (own_step HOW.out HAT.out (Nat.le_trans HSW.out HSZ.out))⟩
          case measure => rw [HNE.out]; simp [intOf]; omega
    · have hdn := civil_Date_no (k := 3000) (by decide) (n := n) (.inr (by omega))
      have HDT : Hid (∀ W, Calls Try.prog 27 #[.int .i64 n] W fun e w' => e = .returned (.tuple #[.agg #[.int .i64 0, .int .i64 0, .int .i64 0], .bool false]) ∧ Below W.heap.size W w') := Lib.hid (fun W => civil_Date.calls 3000 n 0 0 0 false W hdn)
      have HPV : Hid (P n = false) := Lib.hid (by rw [HP.out]; unfold dayB; rw [hdn])
      clear hdn
      go_upto_region 3 with (first | ((with_reducible refine (HDT.out _).mono ?_); rintro e w2 ⟨rfl, hb2⟩; have HB2 := Lib.hid hb2; clear hb2))
      have HB3 : Hid (Below wr.heap.size wr (w2.alloc (.cells #[.int .i64 0, .int .i64 0, .int .i64 0] 37))) := Lib.hid (HB2.out.alloc HB2.out.size _)
      have HPN : Hid (P (n0 + (j : Int)) = false) := Lib.hid (by rw [← HNE.out]; exact HPV.out)
      go_wp2
      go_roundw
      case rel => exact ⟨j + 1, by omega, by rw [HNE.out]; rw [show n0 + ((j + 1 : Nat) : Int) = n0 + (j : Int) + 1 from by omega], Lib.hid (by rw [daysL_no HPN.out, ← HCUR.out]; exact Kd.R_below hRr.out HB3.out), Lib.hid (HK.out.below HB3.out), Lib.hid (HB.out.trans (HB3.out.mono HB.out.size)), HOW⟩
      case measure => rw [HNE.out]; simp [intOf]; omega
  · have hge : ¬ n0 + (j : Int) < fr + (many : Int) := fun h => hlt ((HKN.out j).2 h)
    obtain rfl : j = K := by omega
    go_wp2
    go_ret
    rw [← HCUR.out]
    exact ⟨_, rfl, hRr.out, HK.out, HB.out, HOW.out⟩
end Go.Proofs.Ytinjbpbpgogdhaa.Own
end
