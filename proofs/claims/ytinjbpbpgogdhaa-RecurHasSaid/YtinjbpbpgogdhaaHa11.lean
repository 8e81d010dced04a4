-- own text: texts of this session merged by a program of it (merge.py), declarations that nothing reaches left out (prune.py)
import Derived.Test.YtinjbpbpgogdhaaHa09
import Derived.Test.YtinjbpbpgogdhaaHa10
section
namespace Go.Proofs.Ytinjbpbpgogdhaa.Own
open Go.RowKit Go.Proofs.YtinjbpbpgogdhaaW.PrintWords Go.Proofs.YtinjbpbpgogdhaaW.PrintLast Go.Proofs.YtinjbpbpgogdhaaW.PrintMore
set_option linter.unusedVariables false
set_option linter.unusedSimpArgs false
/-- Is a day of a month as one of the days says? -/
def nthOne (x : S58) (d long wd : Int) : Bool := decide (x.f1 = wd) && (decide (x.f0 = 0) || decide (x.f0 = (d - 1) / 7 + 1) || decide (x.f0 = -((long - d) / 7 + 1)))
/-- What the closure holds: a weekday, a date, a month's length. -/
structure NthM (W : World) (g5 g4 g7 : Nat) (y m d long wd : Int) : Prop where
  h5 : W.heap[g5]? = some (.cells #[.int .i64 wd] 3 (0, 0))
  h4 : W.heap[g4]? = some (.cells #[.int .i64 y, .int .i64 m, .int .i64 d] 37 (0, 0))
  h7 : W.heap[g7]? = some (.cells #[.int .i64 long] 3 (0, 0))
theorem NthM.below {W W1 : World} {g5 g4 g7 : Nat} {y m d long wd : Int} (h : NthM W g5 g4 g7 y m d long wd) (hb : Below W.heap.size W W1) : NthM W1 g5 g4 g7 y m d long wd := ⟨keep_below hb h.h5, keep_below hb h.h4, keep_below hb h.h7⟩
set_option maxHeartbeats 4000000 in
set_option maxRecDepth 100000 in
theorem nth1_any (x : S58) (w : World) {g5 g4 g7 : Nat} {y m d long wd : Int} (h : NthM w g5 g4 g7 y m d long wd) (hd : 1 ≤ d) (hdl : d ≤ long) (hl : long ≤ 31) :
    Calls Try.prog 59 #[.agg #[.int .i64 x.f0, .int .i64 x.f1], .pointer (some ⟨g5, 0, none⟩), .pointer (some ⟨g4, 0, none⟩), .pointer (some ⟨g7, 0, none⟩)] w fun e w' => e = .returned (.bool (nthOne x d long wd)) ∧ Below w.heap.size w w' := by
  obtain ⟨xn, xd⟩ := x
  simp only
  have HB : Hid (Below w.heap.size w (w.alloc (.cells #[.int .i64 xn, .int .i64 xd] 58))) := Lib.hid below_new_
  have H := Lib.hid h
  clear h
  have q5 := cell_eq (blk_cell H.out.h5 0) rfl
  have q4 := cell_eq (blk_cell H.out.h4 2) rfl
  have q7 := cell_eq (blk_cell H.out.h7 0) rfl
  have l5 := heap_lt H.out.h5
  have l4 := heap_lt H.out.h4
  have l7 := heap_lt H.out.h7
  have w1 : wrap64 (d - 1) = d - 1 := IntWalk.wrap64_in _ (by omega)
  have w2 : wrap64 ((d - 1) / 7 + 1) = (d - 1) / 7 + 1 := IntWalk.wrap64_in _ (by clear w1; omega)
  have w3 : wrap64 (long - d) = long - d := IntWalk.wrap64_in _ (by clear w1 w2; omega)
  have w4 : wrap64 ((long - d) / 7 + 1) = (long - d) / 7 + 1 := IntWalk.wrap64_in _ (by clear w1 w2 w3; omega)
  have w5 : wrap64 (-((long - d) / 7 + 1)) = -((long - d) / 7 + 1) := IntWalk.wrap64_in _ (by clear w1 w2 w3 w4; omega)
  have w6 : IntKind.i64.wrap (-((long - d) / 7 + 1)) = -((long - d) / 7 + 1) := IntWalk.i64_in _ (by clear w1 w2 w3 w4 w5; omega)
  by_cases e1 : xd = wd
  · have t1 : (xd == wd) = true := by rw [e1]; exact beq_self_eq_true _
    by_cases e2 : xn = 0
    · have hr : Hid (nthOne ⟨xn, xd⟩ d long wd = true) := Lib.hid (by unfold nthOne; simp [e1, e2])
      clear e1
      subst e2
      go_enter Try.func59, Try.ntmps59
      go_wp2
      go_ret
      refine ⟨?_, HB.out⟩
      rw [hr.out]
      first | done | rfl
    · have t2 : (xn == 0) = false := by rw [Bool.eq_false_iff]; intro h; exact e2 (eq_of_beq h)
      by_cases e3 : xn = (d - 1) / 7 + 1
      · have hr : Hid (nthOne ⟨xn, xd⟩ d long wd = true) := Lib.hid (by unfold nthOne; simp [e1, e3])
        have t3 : (xn == (d - 1) / 7 + 1) = true := by rw [e3]; exact beq_self_eq_true _
        clear e1 e2 e3
        go_enter Try.func59, Try.ntmps59
        go_wp2
        go_ret
        refine ⟨?_, HB.out⟩
        rw [hr.out]
        first | done | rfl
      · have t3 : (xn == (d - 1) / 7 + 1) = false := by rw [Bool.eq_false_iff]; intro h; exact e3 (eq_of_beq h)
        by_cases e4 : xn = -((long - d) / 7 + 1)
        · have hr : Hid (nthOne ⟨xn, xd⟩ d long wd = true) := Lib.hid (by unfold nthOne; simp [e1, e4])
          have t4 : (xn == -((long - d) / 7 + 1)) = true := by rw [e4]; exact beq_self_eq_true _
          clear e1 e2 e3 e4
          go_enter Try.func59, Try.ntmps59
          go_wp2
          go_ret
          refine ⟨?_, HB.out⟩
          rw [hr.out]
          first | done | rfl
        · have hr : Hid (nthOne ⟨xn, xd⟩ d long wd = false) := Lib.hid (by unfold nthOne; simp only [decide_eq_false e2, decide_eq_false e3, decide_eq_false e4, Bool.or_false, Bool.and_false])
          have t4 : (xn == -((long - d) / 7 + 1)) = false := by rw [Bool.eq_false_iff]; intro h; exact e4 (eq_of_beq h)
          clear e1 e2 e3 e4
          go_enter Try.func59, Try.ntmps59
          go_wp2
          go_ret
          refine ⟨?_, HB.out⟩
          rw [hr.out]
          first | done | rfl
  · have t1 : (xd == wd) = false := by rw [Bool.eq_false_iff]; intro h; exact e1 (eq_of_beq h)
    have hr : Hid (nthOne ⟨xn, xd⟩ d long wd = false) := Lib.hid (by unfold nthOne; simp [e1])
    clear e1
    go_enter Try.func59, Try.ntmps59
    go_wp2
    go_ret
    refine ⟨?_, HB.out⟩
    rw [hr.out]
    first | done | rfl
def anyD (l : List S58) (q : S58 → Bool) : Bool := decide (∃ i, i < l.length ∧ q (rd_T58 l (i : Int)) = true)
def IdxRelD (w : World) (l : List S58) (q : S58 → Bool) (i : Value) (wr : World) : Prop := ∃ j : Nat, j ≤ l.length ∧ i = .int .i64 (j : Int) ∧ Hid (∀ i, i < j → q (rd_T58 l (i : Int)) = false) ∧ Hid (Below w.heap.size w wr)
set_option maxHeartbeats 4000000 in
set_option maxRecDepth 100000 in
theorem idxD_any (w : World) (l : List S58) (A : Option Addr) (c : Nat) {g5 g4 g7 : Nat} {y m d long wd : Int} (h : NthM w g5 g4 g7 y m d long wd) (hd : 1 ≤ d) (hdl : d ≤ long) (hll : long ≤ 31) (hC : Kd.C k58 w A l.length l) (hl : l.length ≤ 10000) :
    Calls Try.prog 60 #[.slice A l.length c, .func (.func 59) #[] #[.pointer (some ⟨g5, 0, none⟩), .pointer (some ⟨g4, 0, none⟩), .pointer (some ⟨g7, 0, none⟩)]] w fun e w' => ∃ n : Int, e = .returned (.int .i64 n) ∧ decide (n ≥ 0) = anyD l (fun x => nthOne x d long wd) ∧ Below w.heap.size w w' := by
  have HC := Lib.hid hC
  have H := Lib.hid h
  clear hC h
  go_enter Try.func60, Try.ntmps60
  go_wp2
  go_loopw [8, 5] (fun i' v wr => IdxRelD w l (fun x => nthOne x d long wd) i' wr) (fun i' _ _ => l.length - (intOf i').toNat)
  case atStart => exact ⟨0, Nat.zero_le _, rfl, Lib.hid (fun i hi => by omega), Lib.hid (Below.refl _ _)⟩
  case round =>
  obtain ⟨j, hj, rfl, HT, HB⟩ := hrel
  by_cases hlt : j < l.length
  · obtain ⟨ad, rfl, hc1, hc2⟩ := at_T58 (Kd.C_below HC.out HB.out) (j : Int) (by omega) (by omega)
    rw [Int.toNat_natCast] at hc1 hc2
    cases hv : nthOne (rd_T58 l (j : Int)) d long wd with
    | true =>
      have HV := Lib.hid hv
      have HNZ : Hid (Calls Try.prog 59 #[.agg #[.int .i64 (rd_T58 l (j : Int)).f0, .int .i64 (rd_T58 l (j : Int)).f1], .pointer (some ⟨g5, 0, none⟩), .pointer (some ⟨g4, 0, none⟩), .pointer (some ⟨g7, 0, none⟩)] wr fun e w' => e = .returned (.bool true) ∧ Below wr.heap.size wr w') := Lib.hid (by have := nth1_any (rd_T58 l (j : Int)) wr (H.out.below HB.out) hd hdl hll; rw [hv] at this; exact this)
      clear hv
      go_wp2_with (first | ((with_reducible refine HNZ.out.mono ?_); rintro e w2 ⟨rfl, hb2⟩; have HB2 := Lib.hid hb2; clear hb2))
      go_ret
      refine ⟨(j : Int), rfl, ?_, HB.out.trans (HB2.out.mono HB.out.size)⟩
      rw [decide_eq_true (by omega)]
      exact (decide_eq_true ⟨j, hlt, HV.out⟩).symm
    | false =>
      have HV := Lib.hid hv
      have HNZ : Hid (Calls Try.prog 59 #[.agg #[.int .i64 (rd_T58 l (j : Int)).f0, .int .i64 (rd_T58 l (j : Int)).f1], .pointer (some ⟨g5, 0, none⟩), .pointer (some ⟨g4, 0, none⟩), .pointer (some ⟨g7, 0, none⟩)] wr fun e w' => e = .returned (.bool false) ∧ Below wr.heap.size wr w') := Lib.hid (by have := nth1_any (rd_T58 l (j : Int)) wr (H.out.below HB.out) hd hdl hll; rw [hv] at this; exact this)
      clear hv
      go_wp2_with (first | ((with_reducible refine HNZ.out.mono ?_); rintro e w2 ⟨rfl, hb2⟩; have HB2 := Lib.hid hb2; clear hb2))
      go_roundw
      case rel => exact ⟨j + 1, by omega, by go_num, Lib.hid (all_more HT.out HV.out), Lib.hid (HB.out.trans (HB2.out.mono HB.out.size))⟩
      case measure => simp [intOf]; omega
  · go_wp2
    go_ret
    refine ⟨-1, rfl, ?_, HB.out⟩
    have hf : anyD l (fun x => nthOne x d long wd) = false := decide_eq_false (fun ⟨i, hi, h⟩ => by
      have h2 := HT.out i (by omega)
      exact absurd (h2.symm.trans h) (by decide))
    rw [hf]
    rfl
set_option maxHeartbeats 4000000 in
theorem hasD_any (w : World) (l : List S58) (A : Option Addr) (c : Nat) {g5 g4 g7 : Nat} {y m d long wd : Int} (h : NthM w g5 g4 g7 y m d long wd) (hd : 1 ≤ d) (hdl : d ≤ long) (hll : long ≤ 31) (hC : Kd.C k58 w A l.length l) (hl : l.length ≤ 10000) :
    Calls Try.prog 58 #[.slice A l.length c, .func (.func 59) #[] #[.pointer (some ⟨g5, 0, none⟩), .pointer (some ⟨g4, 0, none⟩), .pointer (some ⟨g7, 0, none⟩)]] w fun e w' => e = .returned (.bool (anyD l (fun x => nthOne x d long wd))) ∧ Below w.heap.size w w' := by
  have HI := Lib.hid (idxD_any w l A c h hd hdl hll hC hl)
  clear h hC
  obtain ⟨r, hr⟩ : ∃ r, r = anyD l (fun x => nthOne x d long wd) := ⟨_, rfl⟩
  rw [← hr] at HI ⊢
  clear hr
  go_enter Try.func58, Try.ntmps58
  go_wp2_with (first | ((with_reducible refine HI.out.mono ?_); rintro e w2 ⟨n, rfl, hd', hb⟩; have HD := Lib.hid hd'; have HB := Lib.hid hb; clear hd' hb))
  go_ret
  refine ⟨?_, HB.out⟩
  rw [← HD.out]
  first | done | rfl
theorem drawn_below {w w' : World} (h : Drawn0 w w') : Below w.heap.size w w' := by
  obtain ⟨n, rfl⟩ := h.out
  exact pw_below_drewN (Below.refl _ _) n
/-- nth, told; a day of a month that there is. -/
def recur_nth.f (l0 : List S58) (y m d wd : Int) : Option Bool := (civil_Length.f 5 y m).bind fun long => if 1 ≤ d ∧ d ≤ long ∧ long ≤ 31 ∧ l0.length ≤ 10000 then some (anyD l0 (fun x => nthOne x d long wd)) else none
set_option maxHeartbeats 4000000 in
set_option maxRecDepth 100000 in
theorem recur_nth.calls (A0 : Option Addr) (c0 : Nat) (l0 : List S58) (a1_0 a1_1 a1_2 : Int) (a2 : Int) (r : Bool) (w : World) (hr0 : Kd.C k58 w A0 l0.length l0) (hc0 : l0.length ≤ c0) (h : recur_nth.f l0 a1_0 a1_1 a1_2 a2 = some r) :
    Calls Try.prog 54 #[.slice A0 l0.length c0, .agg #[.int .i64 a1_0, .int .i64 a1_1, .int .i64 a1_2], .int .i64 a2] w fun e w' => e = .returned (.bool r) ∧ Below w.heap.size w w' := by
  unfold recur_nth.f at h
  obtain ⟨long, hlong, h⟩ := Option.bind_eq_some_iff.1 h
  split at h
  · rename_i hc
    obtain rfl := Option.some.inj h
    have HR := Lib.hid hr0
    have HC := Lib.hid hc
    have HLN : Hid (∀ W, Calls Try.prog 52 #[.int .i64 a1_0, .int .i64 a1_1] W fun e w' => e = .returned (.int .i64 long) ∧ Drawn0 W w') := Lib.hid (fun W => civil_Length.calls 5 a1_0 a1_1 long W hlong)
    clear hr0 h hc hlong
    go_enter Try.func54, Try.ntmps54
    have HM0 : Hid (NthM ((w.alloc (.cells #[.int .i64 a1_0, .int .i64 a1_1, .int .i64 a1_2] 37)).alloc (.cells #[.int .i64 a2] 3)) (w.heap.size + 1) w.heap.size (w.heap.size + 1) a1_0 a1_1 a1_2 a2 a2) := Lib.hid (by
      have h2 := alloc_blk (w.alloc (.cells #[.int .i64 a1_0, .int .i64 a1_1, .int .i64 a1_2] 37)) #[.int .i64 a2] 3
      rw [alloc_size] at h2
      exact ⟨h2, keep_below below_new_ (alloc_blk w #[.int .i64 a1_0, .int .i64 a1_1, .int .i64 a1_2] 37), h2⟩)
    have HBL : Hid (Below w.heap.size w ((w.alloc (.cells #[.int .i64 a1_0, .int .i64 a1_1, .int .i64 a1_2] 37)).alloc (.cells #[.int .i64 a2] 3))) := Lib.hid (((Below.refl w.heap.size w).alloc (Nat.le_refl _) _).alloc (by rw [alloc_size]; omega) _)
    go_upto_region 1 with (fail)
    obtain ⟨g4, hg4⟩ : ∃ x, x = w.heap.size := ⟨_, rfl⟩
    obtain ⟨g5, hg5⟩ : ∃ x, x = g4 + 1 := ⟨_, rfl⟩
    rw [← hg4, ← hg5] at HM0
    rw [← hg4, ← hg5]
    clear hg4 hg5
    generalize (w.alloc (.cells #[.int .i64 a1_0, .int .i64 a1_1, .int .i64 a1_2] 37)).alloc (.cells #[.int .i64 a2] 3) = w1 at HM0 HBL ⊢
    have q0 := cell_eq (blk_cell HM0.out.h4 0) rfl
    have q1 := cell_eq (blk_cell HM0.out.h4 1) rfl
    go_upto_region 2 with (first | ((with_reducible refine (HLN.out _).mono ?_); rintro e w2 ⟨rfl, hd⟩; have HDB := Lib.hid (drawn_below hd); clear hd))
    have HM2 : Hid (NthM (w2.alloc (.cells #[.int .i64 long] 3)) g5 g4 w2.heap.size a1_0 a1_1 a1_2 long a2) := Lib.hid (by
      have h := (HM0.out.below HDB.out).below (below_new_ (o := .cells #[.int .i64 long] 3))
      exact ⟨h.h5, h.h4, alloc_blk _ _ _⟩)
    have HB2 : Hid (Below w.heap.size w (w2.alloc (.cells #[.int .i64 long] 3))) := Lib.hid ((HBL.out.trans (HDB.out.mono HBL.out.size)).alloc (Nat.le_trans HBL.out.size HDB.out.size) _)
    clear q0 q1 HM0
    obtain ⟨g7, hg7⟩ : ∃ x, x = w2.heap.size := ⟨_, rfl⟩
    rw [← hg7] at HM2 ⊢
    clear hg7
    generalize w2.alloc (.cells #[.int .i64 long] 3) = w3 at HM2 HB2 ⊢
    have HHS := Lib.hid (hasD_any w3 l0 A0 c0 HM2.out HC.out.1 HC.out.2.1 HC.out.2.2.1 (Kd.C_below HR.out HB2.out) HC.out.2.2.2)
    go_wp2_with (first | ((with_reducible refine HHS.out.mono ?_); rintro e w4 ⟨rfl, hb4⟩; have HB4 := Lib.hid hb4; clear hb4))
    go_ret
    exact ⟨rfl, HB2.out.trans (HB4.out.mono HB2.out.size)⟩
  · cases h
end Go.Proofs.Ytinjbpbpgogdhaa.Own
end
section
namespace Go.Proofs.Ytinjbpbpgogdhaa.Own
open Go.RowKit Go.Proofs.YtinjbpbpgogdhaaW.PrintWords Go.Proofs.YtinjbpbpgogdhaaW.PrintLast Go.Proofs.YtinjbpbpgogdhaaW.PrintMore
set_option linter.unusedVariables false
/-- row, told. -/
def rule_row.f (l0 : List Int) (a1 : Int) (a2 : Bool) : Option Bool := if l0.length ≤ 10000 ∧ 0 ≤ a1 ∧ a1 ≤ 1000 then some (rowB l0 a1 a2) else none
theorem rule_row.calls (A0 : Option Addr) (c0 : Nat) (l0 : List Int) (a1 : Int) (a2 : Bool) (r : Bool) (w : World) (hr0 : Kd.C (Kd.int .i64) w A0 l0.length l0) (hc0 : l0.length ≤ c0) (h : rule_row.f l0 a1 a2 = some r) :
    Calls Try.prog 34 #[.slice A0 l0.length c0, .int .i64 a1, .bool a2] w fun e w' => e = .returned (.bool r) ∧ Below w.heap.size w w' := by
  unfold rule_row.f at h
  split at h
  · rename_i hc
    obtain rfl := Option.some.inj h
    exact row_any w l0 A0 c0 a1 a2 hr0 hc.1 hc.2.1 hc.2.2
  · cases h
/-- daysMay, told. -/
def rule_daysMay.f (a0_0 : Int) (a0_1 : Int) (a0_2 : Int) (a0_3 : Int) (l0_4 : List Int) (l0_5 : List Int) (l0_6 : List (S58)) (l0_7 : List Int) (a0_8 : Int) : Option Bool := if l0_6.length ≤ 10000 ∧ l0_4.length ≤ 10000 then some (daysB a0_0 l0_4 l0_6) else none
theorem rule_daysMay.calls (a0_0 : Int) (a0_1 : Int) (a0_2 : Int) (a0_3 : Int) (A0_4 : Option Addr) (c0_4 : Nat) (l0_4 : List Int) (A0_5 : Option Addr) (c0_5 : Nat) (l0_5 : List Int) (A0_6 : Option Addr) (c0_6 : Nat) (l0_6 : List (S58)) (A0_7 : Option Addr) (c0_7 : Nat) (l0_7 : List Int) (a0_8 : Int) (r : Bool) (w : World) (hr0_4 : Kd.C (Kd.int .i64) w A0_4 l0_4.length l0_4) (hc0_4 : l0_4.length ≤ c0_4) (hr0_5 : Kd.C (Kd.int .i64) w A0_5 l0_5.length l0_5) (hc0_5 : l0_5.length ≤ c0_5) (hr0_6 : Kd.C k58 w A0_6 l0_6.length l0_6) (hc0_6 : l0_6.length ≤ c0_6) (hr0_7 : Kd.C (Kd.int .i64) w A0_7 l0_7.length l0_7) (hc0_7 : l0_7.length ≤ c0_7) (h : rule_daysMay.f a0_0 a0_1 a0_2 a0_3 l0_4 l0_5 l0_6 l0_7 a0_8 = some r) :
    Calls Try.prog 35 #[.agg #[.int .i64 a0_0, .int .i64 a0_1, .int .i64 a0_2, .int .i64 a0_3, .slice A0_4 l0_4.length c0_4, .slice A0_5 l0_5.length c0_5, .slice A0_6 l0_6.length c0_6, .slice A0_7 l0_7.length c0_7, .int .i64 a0_8]] w fun e w' => e = .returned (.bool r) ∧ Below w.heap.size w w' := by
  unfold rule_daysMay.f at h
  split at h
  · rename_i hc
    obtain rfl := Option.some.inj h
    exact daysMay_any a0_0 a0_1 a0_2 a0_3 a0_8 A0_4 A0_5 A0_6 A0_7 c0_4 c0_5 c0_6 c0_7 l0_4 l0_5 l0_7 l0_6 w hr0_4 hr0_6 hc.1 hc.2
  · cases h
end Go.Proofs.Ytinjbpbpgogdhaa.Own
end
