-- own text: texts of this session merged by a program of it (merge.py), declarations that nothing reaches left out (prune.py)
import Derived.Test.YtinjbpbpgogdhaaHa28
section
namespace Go.Proofs.Ytinjbpbpgogdhaa.Own
open Go.RowKit Go.Shelf Go.Proofs.YtinjbpbpgogdhaaW.PrintWords Go.Proofs.YtinjbpbpgogdhaaW.PrintLast Go.Proofs.YtinjbpbpgogdhaaW.PrintMore
set_option linter.unusedVariables false
set_option linter.unusedSimpArgs false
/-- Is a day as a rule with a start's day says, told, where no weekdays are listed. -/
def rplain (a0 : Int) (l4 l5 : List Int) (sm sd sW m d wd : Int) : Bool :=
  if a0 = 2 then wd == sW else if 0 < l5.length ∨ a0 = 1 then true else if d = sd then (decide (a0 = 3) || decide (0 < l4.length) || (m == sm)) else false
/-- .. as a rule says, told. -/
def rrightB (a0 : Int) (l4 l5 : List Int) (l6 : List S58) (sm sd sW y m d wd : Int) : Bool :=
  (decide (l4.length = 0) || hasI l4 m) && (decide (l5.length = 0) || hasI l5 d || hasI l5 (d - len y m - 1)) && (if l6.length = 0 then rplain a0 l4 l5 sm sd sW m d wd else anyD l6 (fun x => nthOne x d (len y m) wd))
set_option maxHeartbeats 8000000 in
set_option maxRecDepth 100000 in
/-- ref10.right. -/
theorem rright_any {a0 a1 a2 a3 a8 : Int} {A4 A5 A6 A7 : Option Addr} {c4 c5 c6 c7 : Nat} {l4 l5 l7 : List Int} {l6 : List S58} (sN sy sm sd sW N y m d wd : Int) (w : World) (hR : RC w A4 A5 A6 A7 c4 c5 c6 c7 l4 l5 l7 l6) (hd : 1 ≤ d) (hdl : d ≤ len y m) :
    Calls Try.prog 22 #[.agg #[.int .i64 a0, .int .i64 a1, .int .i64 a2, .int .i64 a3, .slice A4 l4.length c4, .slice A5 l5.length c5, .slice A6 l6.length c6, .slice A7 l7.length c7, .int .i64 a8], .agg #[.int .i64 sN, .int .i64 sy, .int .i64 sm, .int .i64 sd, .int .i64 sW], .agg #[.int .i64 N, .int .i64 y, .int .i64 m, .int .i64 d, .int .i64 wd]] w fun e w' => e = .returned (.bool (rrightB a0 l4 l5 l6 sm sd sW y m d wd)) ∧ Below w.heap.size w w' := by
  have HRC := Lib.hid hR
  have hn4 := hR.n4
  have hn5 := hR.n5
  have hn6 := hR.n6
  have hlen := len_bd y m
  clear hR
  have HLN := Lib.hid (fun W => vespersref01_Length.calls 5 y m _ W (ref_Length_f (by decide) y m))
  obtain ⟨rr, hrr⟩ : ∃ r, r = rrightB a0 l4 l5 l6 sm sd sW y m d wd := ⟨_, rfl⟩
  rw [← hrr]
  unfold rrightB at hrr
  have HNT : Hid (∀ W, Below w.heap.size w W → Calls Try.prog 32 #[.slice A6 l6.length c6, .agg #[.int .i64 N, .int .i64 y, .int .i64 m, .int .i64 d, .int .i64 wd]] W fun e w' => e = .returned (.bool (anyD l6 (fun x => nthOne x d (len y m) wd))) ∧ Below W.heap.size W w') := Lib.hid (fun W hW => rnth_any W l6 A6 c6 N y m d wd (HRC.out.below hW).h6 (by omega) hd hdl)
  obtain ⟨long, hlong⟩ : ∃ x, x = len y m := ⟨_, rfl⟩
  rw [← hlong] at HLN hdl hlen hrr HNT
  obtain ⟨an, han⟩ : ∃ x, x = anyD l6 (fun x => nthOne x d long wd) := ⟨_, rfl⟩
  rw [← han] at HNT hrr
  have HRR := Lib.hid hrr
  have hdb : d ≤ 31 := by omega
  have HH4 : Hid (∀ W, Below w.heap.size w W → Calls Try.prog 31 #[.slice A4 l4.length c4, .int .i64 m] W fun e w' => e = .returned (.bool (hasI l4 m)) ∧ w' = W) := Lib.hid (fun W hW => rhas_any W l4 A4 c4 m (HRC.out.below hW).h4 (by omega))
  have HH5 : Hid (∀ W, Below w.heap.size w W → Calls Try.prog 31 #[.slice A5 l5.length c5, .int .i64 d] W fun e w' => e = .returned (.bool (hasI l5 d)) ∧ w' = W) := Lib.hid (fun W hW => rhas_any W l5 A5 c5 d (HRC.out.below hW).h5 (by omega))
  have HH6 : Hid (∀ W, Below w.heap.size w W → Calls Try.prog 31 #[.slice A5 l5.length c5, .int .i64 (d - long - 1)] W fun e w' => e = .returned (.bool (hasI l5 (d - long - 1))) ∧ w' = W) := Lib.hid (fun W hW => rhas_any W l5 A5 c5 (d - long - 1) (HRC.out.below hW).h5 (by omega))
  clear hlong hrr han HRC
  go_enter Try.func22, Try.ntmps22
  go_upto_region 1 with (fail)
  have HX := boxes3 w (.cells #[.int .i64 a0, .int .i64 a1, .int .i64 a2, .int .i64 a3, .slice A4 l4.length c4, .slice A5 l5.length c5, .slice A6 l6.length c6, .slice A7 l7.length c7, .int .i64 a8] 25) (.cells #[.int .i64 sN, .int .i64 sy, .int .i64 sm, .int .i64 sd, .int .i64 sW] 47) (.cells #[.int .i64 N, .int .i64 y, .int .i64 m, .int .i64 d, .int .i64 wd] 47)
  generalize (((w.alloc (.cells #[.int .i64 a0, .int .i64 a1, .int .i64 a2, .int .i64 a3, .slice A4 l4.length c4, .slice A5 l5.length c5, .slice A6 l6.length c6, .slice A7 l7.length c7, .int .i64 a8] 25)).alloc (.cells #[.int .i64 sN, .int .i64 sy, .int .i64 sm, .int .i64 sd, .int .i64 sW] 47)).alloc (.cells #[.int .i64 N, .int .i64 y, .int .i64 m, .int .i64 d, .int .i64 wd] 47)) = w1 at HX ⊢
  obtain ⟨hx1, hx2, hx3, hxb⟩ := HX
  have H1 := Lib.hid hx1
  have H2 := Lib.hid hx2
  have H3 := Lib.hid hx3
  have HB1 := Lib.hid hxb
  clear hx1 hx2 hx3 hxb
  obtain ⟨g1, hg1⟩ : ∃ x, x = w.heap.size := ⟨_, rfl⟩
  rw [← hg1] at H1 H2 H3 ⊢
  obtain ⟨g2, hg2⟩ : ∃ x, x = g1 + 1 := ⟨_, rfl⟩
  rw [← hg2] at H2 H3 ⊢
  obtain ⟨g3, hg3⟩ : ∃ x, x = g2 + 1 := ⟨_, rfl⟩
  rw [← hg3] at H3 ⊢
  clear hg1 hg2 hg3
  obtain ⟨q0, q1, q2, q3, q4, q5, q6, q7, q8⟩ := cells9 H1.out
  obtain ⟨s0, s1, s2, s3, s4⟩ := cells5 H2.out
  obtain ⟨d0, d1, d2, d3, d4⟩ := cells5 H3.out
  obtain ⟨t1, ht1⟩ : ∃ x, x = (decide (l4.length = 0) || hasI l4 m) := ⟨_, rfl⟩
  have HT1 := Lib.hid ht1
  clear ht1
  go_cut [20] (fun v20 wc => v20 = .bool (!t1) ∧ wc = w1)
  case first =>
    by_cases e1 : l4.length = 0
    · have e1c : ¬ (0 : Int) < (l4.length : Int) := by omega
      have e1d := Lib.hid e1
      clear e1
      go_wp2
      go_meet
      case rel => exact ⟨by rw [HT1.out, decide_eq_true e1d.out]; rfl, rfl⟩
    · have e1c : (0 : Int) < (l4.length : Int) := by omega
      have E1 := Lib.hid e1
      clear e1
      cases e2 : hasI l4 m with
      | true =>
        rw [e2] at HH4
        have E2 := Lib.hid e2
        clear e2
        go_wp2_with (first | ((with_reducible refine (HH4.out _ HB1.out).mono ?_); rintro e w3 ⟨rfl, rfl⟩))
        go_meet
        case rel => exact ⟨by rw [HT1.out, E2.out, Bool.or_true]; rfl, rfl⟩
      | false =>
        rw [e2] at HH4
        have E2 := Lib.hid e2
        clear e2
        go_wp2_with (first | ((with_reducible refine (HH4.out _ HB1.out).mono ?_); rintro e w3 ⟨rfl, rfl⟩))
        go_meet
        case rel => exact ⟨by rw [HT1.out, E2.out, decide_eq_false E1.out]; rfl, rfl⟩
  case rest =>
  obtain ⟨rfl, rfl⟩ := hcut
  cases t1 with
  | false =>
    have HF : Hid (rr = false) := Lib.hid (by rw [HRR.out, ← HT1.out]; rfl)
    go_wp2
    go_ret
    rw [HF.out]
    exact ⟨rfl, HB1.out⟩
  | true =>
    clear HH4
    go_upto_region 4 with (first | ((with_reducible refine (HLN.out _).mono ?_); rintro e w2 ⟨rfl, hb2⟩; have HB2 := Lib.hid (HB1.out.trans (hb2.mono HB1.out.size)); have K1 := Lib.hid (keep_below hb2 H1.out); have K2 := Lib.hid (keep_below hb2 H2.out); have K3 := Lib.hid (keep_below hb2 H3.out); clear hb2))
    clear q0 q1 q2 q3 q4 q5 q6 q7 q8 s0 s1 s2 s3 s4 d0 d1 d2 d3 d4
    obtain ⟨q0, q1, q2, q3, q4, q5, q6, q7, q8⟩ := cells9 K1.out
    obtain ⟨s0, s1, s2, s3, s4⟩ := cells5 K2.out
    obtain ⟨d0, d1, d2, d3, d4⟩ := cells5 K3.out
    have k1 : wrap64 (d - long) = d - long := IntWalk.wrap64_in _ (by omega)
    have k2 : wrap64 (d - long - 1) = d - long - 1 := by clear k1; exact IntWalk.wrap64_in _ (by omega)
    obtain ⟨t2, ht2⟩ : ∃ x, x = (decide (l5.length = 0) || hasI l5 d || hasI l5 (d - long - 1)) := ⟨_, rfl⟩
    have HT2 := Lib.hid ht2
    clear ht2
    go_cut [52] (fun v52 wc2 => v52 = .bool (!t2) ∧ wc2 = w2)
    case first =>
      by_cases e1 : l5.length = 0
      · have e1c : ¬ (0 : Int) < (l5.length : Int) := by clear k1 k2; omega
        have e1d := Lib.hid e1
        clear e1
        go_wp2
        go_meet
        case rel => exact ⟨by rw [HT2.out, decide_eq_true e1d.out]; rfl, rfl⟩
      · have e1c : (0 : Int) < (l5.length : Int) := by clear k1 k2; omega
        have E1 := Lib.hid e1
        clear e1
        cases e2 : hasI l5 d with
        | true =>
          rw [e2] at HH5
          have E2 := Lib.hid e2
          clear e2
          go_wp2_with (first | ((with_reducible refine (HH5.out _ HB2.out).mono ?_); rintro e w3 ⟨rfl, rfl⟩))
          go_meet
          case rel => exact ⟨by rw [HT2.out, E2.out, Bool.or_true, Bool.true_or]; rfl, rfl⟩
        | false =>
          rw [e2] at HH5
          have E2 := Lib.hid e2
          clear e2
          cases e3 : hasI l5 (d - long - 1) with
          | true =>
            rw [e3] at HH6
            have E3 := Lib.hid e3
            clear e3
            go_wp2_with (first | ((with_reducible refine (HH5.out _ HB2.out).mono ?_); rintro e w3 ⟨rfl, rfl⟩; clear HH5) | ((with_reducible refine (HH6.out _ HB2.out).mono ?_); rintro e w3 ⟨rfl, rfl⟩))
            go_meet
            case rel => exact ⟨by rw [HT2.out, E3.out, Bool.or_true]; rfl, rfl⟩
          | false =>
            rw [e3] at HH6
            have E3 := Lib.hid e3
            clear e3
            go_wp2_with (first | ((with_reducible refine (HH5.out _ HB2.out).mono ?_); rintro e w3 ⟨rfl, rfl⟩; clear HH5) | ((with_reducible refine (HH6.out _ HB2.out).mono ?_); rintro e w3 ⟨rfl, rfl⟩))
            go_meet
            case rel => exact ⟨by rw [HT2.out, E2.out, E3.out, decide_eq_false E1.out]; rfl, rfl⟩
    case rest =>
    clear k1 k2
    obtain ⟨rfl, rfl⟩ := hcut
    cases t2 with
    | false =>
      have HF : Hid (rr = false) := Lib.hid (by rw [HRR.out, ← HT1.out, ← HT2.out]; rfl)
      go_wp2
      go_ret
      rw [HF.out]
      exact ⟨rfl, HB2.out⟩
    | true =>
      clear HH5 HH6
      have HR3 : Hid (rr = if l6.length = 0 then rplain a0 l4 l5 sm sd sW m d wd else an) := Lib.hid (by rw [HRR.out, ← HT1.out, ← HT2.out]; rfl)
      by_cases e6 : l6.length = 0
      · have e6c : ¬ (0 : Int) < (l6.length : Int) := by omega
        have e6n : l6 = [] := List.eq_nil_of_length_eq_zero e6
        have HR4 : Hid (rr = rplain a0 l4 l5 sm sd sW m d wd) := Lib.hid (HR3.out.trans (if_pos e6))
        clear e6
        by_cases f2 : a0 = 2
        · subst f2
          have HR5 : Hid (rr = (wd == sW)) := Lib.hid (HR4.out.trans (if_pos rfl))
          go_wp2
          go_ret
          rw [HR5.out]
          exact ⟨rfl, HB2.out⟩
        · have f2b : (a0 == 2) = false := by rw [Bool.eq_false_iff]; intro h; exact f2 (eq_of_beq h)
          have F2 := Lib.hid f2
          by_cases f3 : 0 < l5.length
          · have f3c : (0 : Int) < (l5.length : Int) := by omega
            have f3d : decide ((0 : Int) < (l5.length : Int)) = true := decide_eq_true f3c
            have f3n : ¬ l5 = [] := by intro h; rw [h] at f3; exact absurd f3 (by decide)
            have HR5 : Hid (rr = true) := Lib.hid (HR4.out.trans ((if_neg F2.out).trans (if_pos (.inl f3))))
            go_wp2
            go_ret
            rw [HR5.out]
            exact ⟨rfl, HB2.out⟩
          · have f3c : ¬ (0 : Int) < (l5.length : Int) := by omega
            have f3d : decide ((0 : Int) < (l5.length : Int)) = false := decide_eq_false f3c
            have f3n : l5 = [] := List.eq_nil_of_length_eq_zero (by omega)
            have F3 := Lib.hid f3
            by_cases f4 : a0 = 1
            · have HR5 : Hid (rr = true) := Lib.hid (HR4.out.trans ((if_neg F2.out).trans (if_pos (.inr f4))))
              have f4b : (a0 == 1) = true := by rw [f4]; rfl
              go_wp2
              go_ret
              rw [HR5.out]
              exact ⟨rfl, HB2.out⟩
            · have f4b : (a0 == 1) = false := by rw [Bool.eq_false_iff]; intro h; exact f4 (eq_of_beq h)
              have F4 := Lib.hid f4
              have HR5 : Hid (rr = if d = sd then (decide (a0 = 3) || decide (0 < l4.length) || (m == sm)) else false) := Lib.hid (HR4.out.trans ((if_neg F2.out).trans (if_neg (fun h => h.elim F3.out F4.out))))
              by_cases f5 : d = sd
              · have f5b : (d != sd) = false := by rw [f5]; simp
                have HR6 : Hid (rr = (decide (a0 = 3) || decide (0 < l4.length) || (m == sm))) := Lib.hid (HR5.out.trans (if_pos f5))
                by_cases f6 : a0 = 3
                · have f6b : (a0 == 3) = true := by rw [f6]; rfl
                  have HR7 : Hid (rr = true) := Lib.hid (by rw [HR6.out, decide_eq_true f6]; rfl)
                  go_wp2
                  go_ret
                  rw [HR7.out]
                  exact ⟨rfl, HB2.out⟩
                · have f6b : (a0 == 3) = false := by rw [Bool.eq_false_iff]; intro h; exact f6 (eq_of_beq h)
                  have F6 := Lib.hid f6
                  by_cases f7 : 0 < l4.length
                  · have f7c : (0 : Int) < (l4.length : Int) := by omega
                    have f7d : decide ((0 : Int) < (l4.length : Int)) = true := decide_eq_true f7c
                    have f7n : ¬ l4 = [] := by intro h; rw [h] at f7; exact absurd f7 (by decide)
                    have HR7 : Hid (rr = true) := Lib.hid (by rw [HR6.out, decide_eq_true f7, Bool.or_true]; rfl)
                    go_wp2
                    go_ret
                    rw [HR7.out]
                    exact ⟨rfl, HB2.out⟩
                  · have f7c : ¬ (0 : Int) < (l4.length : Int) := by omega
                    have f7d : decide ((0 : Int) < (l4.length : Int)) = false := decide_eq_false f7c
                    have f7n : l4 = [] := List.eq_nil_of_length_eq_zero (by omega)
                    have HR7 : Hid (rr = (m == sm)) := Lib.hid (by rw [HR6.out, decide_eq_false f7, decide_eq_false F6.out]; rfl)
                    go_wp2
                    go_ret
                    rw [HR7.out]
                    exact ⟨rfl, HB2.out⟩
              · have f5b : (d != sd) = true := by simp [f5]
                have HR6 : Hid (rr = false) := Lib.hid (HR5.out.trans (if_neg f5))
                go_wp2
                go_ret
                rw [HR6.out]
                exact ⟨rfl, HB2.out⟩
      · have e6c : (0 : Int) < (l6.length : Int) := by omega
        have HR4 : Hid (rr = an) := Lib.hid (HR3.out.trans (if_neg e6))
        clear e6
        go_wp2_with (first | ((with_reducible refine (HNT.out _ HB2.out).mono ?_); rintro e w3 ⟨rfl, hb3⟩; have HB3 := Lib.hid (HB2.out.trans (hb3.mono HB2.out.size)); clear hb3))
        go_ret
        rw [HR4.out]
        exact ⟨rfl, HB3.out⟩
end Go.Proofs.Ytinjbpbpgogdhaa.Own
end
section
namespace Go.Proofs.Ytinjbpbpgogdhaa.Own
open Go.RowKit Go.Shelf Go.Proofs.YtinjbpbpgogdhaaW.PrintWords Go.Proofs.YtinjbpbpgogdhaaW.PrintLast Go.Proofs.YtinjbpbpgogdhaaW.PrintMore
set_option linter.unusedVariables false
set_option linter.unusedSimpArgs false
theorem kept_front {w w1 w2 : World} (h1 : Kept w w1 (fun _ => False)) (h2 : Kept w1 w2 (fun _ => False)) : Kept w w2 (fun _ => False) :=
  ⟨Nat.le_trans h1.1 h2.1, fun b hb hn => (h2.2 b (Nat.lt_of_lt_of_le hb h1.1) hn).trans (h1.2 b hb hn)⟩
set_option maxHeartbeats 8000000 in
set_option maxRecDepth 100000 in
/-- ref10.kept. -/
theorem rkept_any {a0 a1 a2 a3 a8 : Int} {A4 A5 A6 A7 : Option Addr} {c4 c5 c6 c7 : Nat} {l4 l5 l7 : List Int} {l6 : List S58} {w0 : World} (v : Value) (l : List Int) (w : World) (hC : RC w0 A4 A5 A6 A7 c4 c5 c6 c7 l4 l5 l7 l6)
    (hR : Kd.R (Kd.int .i64) 3 w w0.heap.size (fun _ => True) v l) (hb0 : Below w0.heap.size w0 w) (hl : l.length ≤ 200000) :
    Calls Try.prog 21 #[.agg #[.int .i64 a0, .int .i64 a1, .int .i64 a2, .int .i64 a3, .slice A4 l4.length c4, .slice A5 l5.length c5, .slice A6 l6.length c6, .slice A7 l7.length c7, .int .i64 a8], v] w (PlacesPost w0 w (placesL l7 l)) := by
  have HRC := Lib.hid hC
  have HR := Lib.hid hR
  have HB0 := Lib.hid hb0
  have hn7 := hC.n7
  clear hC hR hb0
  obtain ⟨vA, vc, rfl, hx1, hx2⟩ := Kd.R_reads HR.out
  clear hx1 hx2
  go_enter Try.func21, Try.ntmps21
  go_upto_region 1 with (fail)
  have hx1 := World.alloc_heap_new w (.cells #[.int .i64 a0, .int .i64 a1, .int .i64 a2, .int .i64 a3, .slice A4 l4.length c4, .slice A5 l5.length c5, .slice A6 l6.length c6, .slice A7 l7.length c7, .int .i64 a8] 25)
  have hxb : Below w.heap.size w (w.alloc (.cells #[.int .i64 a0, .int .i64 a1, .int .i64 a2, .int .i64 a3, .slice A4 l4.length c4, .slice A5 l5.length c5, .slice A6 l6.length c6, .slice A7 l7.length c7, .int .i64 a8] 25)) := below_new_
  generalize (w.alloc (.cells #[.int .i64 a0, .int .i64 a1, .int .i64 a2, .int .i64 a3, .slice A4 l4.length c4, .slice A5 l5.length c5, .slice A6 l6.length c6, .slice A7 l7.length c7, .int .i64 a8] 25)) = w1 at hx1 hxb ⊢
  have H1 := Lib.hid hx1
  have HW1 := Lib.hid hxb
  clear hx1 hxb
  obtain ⟨g1, hg1⟩ : ∃ x, x = w.heap.size := ⟨_, rfl⟩
  rw [← hg1] at H1 ⊢
  clear hg1
  have HB1 := Lib.hid (HB0.out.trans (HW1.out.mono HB0.out.size))
  have HR1 := Lib.hid (Kd.R_below HR.out HW1.out)
  have HK1 := Lib.hid (of_below HW1.out)
  clear HR HB0 HW1
  obtain ⟨q0, q1, q2, q3, q4, q5, q6, q7, q8⟩ := cells9 H1.out
  clear q0 q1 q2 q3 q4 q5 q6 q8
  by_cases e7 : l7.length = 0
  · have e7i : (l7.length : Int) = 0 := by omega
    have HP : Hid (placesL l7 l = l) := Lib.hid (by unfold placesL; rw [if_pos e7])
    go_wp2
    go_ret
    rw [HP.out]
    exact ⟨_, rfl, HR1.out, HK1.out, HB1.out⟩
  · have e7i : ((l7.length : Int) == 0) = false := by rw [Bool.eq_false_iff]; intro h; have := eq_of_beq h; omega
    have HP : Hid (placesL l7 l = placesG l7 l l.length) := Lib.hid (by unfold placesL; rw [if_neg e7])
    go_upto_region 4 with (((with_reducible refine gate_dst (N := 12) rfl ?_); (try (refine gate_guard (by rfl) ?_; dsimp only)); refine Kd.R_lit (Kd.int .i64) (w0 := w0) w0.heap.size 3 ?hg (N := 12) ?hd (xs := ([] : List Int)) (inner := []) (ok := fun _ => True) (okp := fun _ => True) ?hr ?hp (fun _ hk => hk) trivial HB1.out HB1.out.size (by simp) ?_; (case hd => rfl); (case hg => rfl); (case hr => first | (go_simp; done) | (go_simp; rfl)); (case hp => exact (Reps.none _ _)); intro v5 w8 ho9 hb hg_ hnew_; have HO9 := Lib.hid ho9; have HB9 := Lib.hid hb; have HG9 := Lib.hid hg_; have HN9 := Lib.hid hnew_; clear ho9 hb hg_ hnew_))
    go_wp2
    go_loopw [15, 5] (fun i' o wr => PlRel w0 w1 l7 l i' o wr) (fun i' _ _ => l.length - (intOf i').toNat)
    case atStart => exact ⟨0, Nat.zero_le _, rfl, HO9, Lib.hid (Kept.of_grown HG9.out (Kept.refl _ _) (fun k h => by cases h)), HB9, Lib.hid (fun k hk => by obtain ⟨b, hb, hl⟩ := HN9.out; rw [hk] at hb; cases hb; exact hl)⟩
    case round =>
    clear q7
    obtain ⟨j, hj, rfl, hRr, HK, HB, HOW⟩ := hrel
    obtain ⟨cur, hcur⟩ : ∃ x, x = placesG l7 l j := ⟨_, rfl⟩
    rw [← hcur] at hRr
    have hcl : cur.length ≤ 200000 := by
      have h1 := placesG_len l7 l j
      rw [hcur]
      omega
    have HCUR := Lib.hid hcur
    clear hcur
    obtain ⟨oA, oc, rfl, hx1, hx2⟩ := Kd.R_reads hRr.out
    clear hx1 hx2
    by_cases hlt : j < l.length
    · have HRl : Hid (Kd.R (Kd.int .i64) 3 wr w0.heap.size (fun _ => True) (.slice vA l.length vc) l) := Lib.hid (Kd.R_kept HR1.out HK.out (fun k _ h => h))
      obtain ⟨ad, rfl, hc1⟩ := Kd.at_int (Kd.R_reads' HRl.out).2.2 (j : Int) (by omega) (by omega)
      rw [Int.toNat_natCast] at hc1
      obtain ⟨x, hx⟩ : ∃ x, x = rd l (j : Int) := ⟨_, rfl⟩
      rw [← hx] at hc1
      have HX := Lib.hid hx
      clear hx
      have q7 := cell_eq (blk_cell (kept_below HK.out H1.out) 7) rfl
      have hw1 : wrap64 ((j : Int) + 1) = (j : Int) + 1 := IntWalk.wrap64_in _ (by omega)
      have hw2 : wrap64 ((j : Int) - (l.length : Int)) = (j : Int) - (l.length : Int) := IntWalk.wrap64_in _ (by clear hw1; omega)
      have HRCr : Hid (Kd.C (Kd.int .i64) wr A7 l7.length l7) := Lib.hid (HRC.out.below HB.out).h7
      have HH1 : Hid (∀ W, Below wr.heap.size wr W → Calls Try.prog 31 #[.slice A7 l7.length c7, .int .i64 ((j : Int) + 1)] W fun e w' => e = .returned (.bool (hasI l7 ((j : Int) + 1))) ∧ w' = W) := Lib.hid (fun W hW => rhas_any W l7 A7 c7 _ (Kd.C_below HRCr.out hW) (by clear hw1 hw2; omega))
      have HH2 : Hid (∀ W, Below wr.heap.size wr W → Calls Try.prog 31 #[.slice A7 l7.length c7, .int .i64 ((j : Int) - (l.length : Int))] W fun e w' => e = .returned (.bool (hasI l7 ((j : Int) - (l.length : Int)))) ∧ w' = W) := Lib.hid (fun W hW => rhas_any W l7 A7 c7 _ (Kd.C_below HRCr.out hW) (by clear hw1 hw2; omega))
      have HQ0 : Hid (Below wr.heap.size wr wr) := Lib.hid (Below.refl _ _)
      have HQX := HQ0
      have HSW := Lib.hid HK.out.1
      cases h1 : hasI l7 ((j : Int) + 1) with
      | true =>
        have HPB : Hid (plB l7 (l.length : Int) (j : Int) = true) := Lib.hid (by unfold plB; rw [h1]; rfl)
        rw [h1] at HH1
        clear h1 HH2
        go_upto_region 8 with (first | ((with_reducible refine (HH1.out _ HQ0.out).mono ?_); rintro e w3 ⟨rfl, rfl⟩) | ((with_reducible refine (HH2.out _ HQ0.out).mono ?_); rintro e w4 ⟨rfl, rfl⟩))
        have HR5 := Lib.hid (Kd.R_below hRr.out HQX.out)
        have HBW5 := Lib.hid (HB.out.trans (HQX.out.mono HB.out.size))
        have HK5 := Lib.hid (HK.out.below HQX.out)
        go_wp2_with (((with_reducible refine gate_builtin (b := .append) (xs := #[.tmp 32, .tmp 37]) rfl ?_); (try (refine gate_guard (by rfl) ?_; dsimp only)); at_builtin; refine Kd.R_append (w0 := w0) (Kd.int .i64) w0.heap.size rfl (.tmp 32) (.tmp 37) 22 3 (.int .i64 0) 8 rfl Try.underlying22 info3_ rfl (by decide) (by decide) (.slice oA cur.length oc) cur x [.int .i64 x] (fun _ => True) (fun _ => False) rfl rfl rfl (fun _ h => h.elim) (fun _ _ => trivial) HR5.out HBW5.out HBW5.out.size (by clear hw1 hw2; omega) ?_; intro v1 w6 hR6 hb6 hg6 hat6; obtain ⟨cur2, hcur2⟩ : ∃ y, y = cur ++ [x] := ⟨_, rfl⟩; rw [← hcur2] at hR6; have HC2 := Lib.hid hcur2; clear hcur2; have HR6 := Lib.hid hR6; have HB6 := Lib.hid hb6; have HG6 := Lib.hid hg6; have HAT := Lib.hid hat6; clear hR6 hb6 hg6 hat6; obtain ⟨A1, c1, rfl, hx1, hx2⟩ := Kd.R_reads HR6.out; clear hx1 hx2))
        go_roundw
        case rel => exact ⟨j + 1, by omega, by go_num, Lib.hid (by rw [placesG_yes HPB.out, ← HCUR.out, ← HX.out, ← HC2.out]; exact HR6.out), Lib.hid (Kept.of_grown HG6.out HK5.out (fun k hk => .inr (HOW.out k hk))), HB6, Lib.hid (own_step2 HOW.out HAT.out HK.out.1)⟩
        case measure => simp [intOf]; omega
      | false =>
        cases h2 : hasI l7 ((j : Int) - (l.length : Int)) with
        | true =>
          have HPB : Hid (plB l7 (l.length : Int) (j : Int) = true) := Lib.hid (by unfold plB; rw [h2, Bool.or_true])
          rw [h1] at HH1
          rw [h2] at HH2
          clear h1 h2
          go_upto_region 8 with (first | ((with_reducible refine (HH1.out _ HQ0.out).mono ?_); rintro e w3 ⟨rfl, rfl⟩) | ((with_reducible refine (HH2.out _ HQ0.out).mono ?_); rintro e w4 ⟨rfl, rfl⟩))
          have HR5 := Lib.hid (Kd.R_below hRr.out HQX.out)
          have HBW5 := Lib.hid (HB.out.trans (HQX.out.mono HB.out.size))
          have HK5 := Lib.hid (HK.out.below HQX.out)
          go_wp2_with (((with_reducible refine gate_builtin (b := .append) (xs := #[.tmp 32, .tmp 37]) rfl ?_); (try (refine gate_guard (by rfl) ?_; dsimp only)); at_builtin; refine Kd.R_append (w0 := w0) (Kd.int .i64) w0.heap.size rfl (.tmp 32) (.tmp 37) 22 3 (.int .i64 0) 8 rfl Try.underlying22 info3_ rfl (by decide) (by decide) (.slice oA cur.length oc) cur x [.int .i64 x] (fun _ => True) (fun _ => False) rfl rfl rfl (fun _ h => h.elim) (fun _ _ => trivial) HR5.out HBW5.out HBW5.out.size (by clear hw1 hw2; omega) ?_; intro v1 w6 hR6 hb6 hg6 hat6; obtain ⟨cur2, hcur2⟩ : ∃ y, y = cur ++ [x] := ⟨_, rfl⟩; rw [← hcur2] at hR6; have HC2 := Lib.hid hcur2; clear hcur2; have HR6 := Lib.hid hR6; have HB6 := Lib.hid hb6; have HG6 := Lib.hid hg6; have HAT := Lib.hid hat6; clear hR6 hb6 hg6 hat6; obtain ⟨A1, c1, rfl, hx1, hx2⟩ := Kd.R_reads HR6.out; clear hx1 hx2))
          go_roundw
          case rel => exact ⟨j + 1, by omega, by go_num, Lib.hid (by rw [placesG_yes HPB.out, ← HCUR.out, ← HX.out, ← HC2.out]; exact HR6.out), Lib.hid (Kept.of_grown HG6.out HK5.out (fun k hk => .inr (HOW.out k hk))), HB6, Lib.hid (own_step2 HOW.out HAT.out HK.out.1)⟩
          case measure => simp [intOf]; omega
        | false =>
          have HPB : Hid (plB l7 (l.length : Int) (j : Int) = false) := Lib.hid (by unfold plB; rw [h1, h2]; rfl)
          rw [h1] at HH1
          rw [h2] at HH2
          clear h1 h2
          go_upto_region 9 with (first | ((with_reducible refine (HH1.out _ HQ0.out).mono ?_); rintro e w3 ⟨rfl, rfl⟩) | ((with_reducible refine (HH2.out _ HQ0.out).mono ?_); rintro e w4 ⟨rfl, rfl⟩))
          go_wp2
          go_roundw
          case rel => exact ⟨j + 1, by omega, by go_num, Lib.hid (by rw [placesG_no HPB.out, ← HCUR.out]; exact hRr.out), HK, HB, HOW⟩
          case measure => simp [intOf]; omega
    · obtain rfl : j = l.length := by omega
      go_wp2
      go_ret
      rw [HP.out, ← HCUR.out]
      exact ⟨_, rfl, hRr.out, kept_front HK1.out HK.out, HB.out⟩
end Go.Proofs.Ytinjbpbpgogdhaa.Own
end
