import Derived.Test.YthpibikfecjoiaaBst2
import Derived.Test.YthpibikfecjoiaaMay1
namespace Go.Proofs.Ythpibikfecjoiaa.Own
open Go.RowKit Go.Proofs.YthpibikfecjoiaaW.PrintWords Go.Proofs.YthpibikfecjoiaaW.PrintLast Go.Proofs.YthpibikfecjoiaaW.PrintMore
set_option linter.unusedVariables false
set_option linter.unusedSimpArgs false
set_option maxHeartbeats 1000000 in
set_option maxRecDepth 100000 in
theorem midx_any {b0 b1 b2 : Nat} {p : Int} {aA : Option Addr} {ad : Addr} {apart : List S39} {l : List S33} {ac lc k : Nat} {nb : Int → Int → Bool} (w : World) (h0 : MayAt w b0 b1 b2 p aA ad apart l ac lc) (hnb0 : ∀ a b, best_not.f k apart a b = some (nb a b))
    (now : List Int) (A : Option Addr) (c : Nat) (hn0 : Kd.C (Kd.int .i64) w A now.length now) (hl0 : now.length ≤ 1000) (hq0 : ∀ x ∈ now, 0 ≤ x ∧ x < (l.length : Int)) :
    Calls Try.prog 21 #[.slice A now.length c, .func (.func 15) #[] #[.pointer (some ⟨b0, 0, none⟩), .pointer (some ⟨b1, 0, none⟩), .pointer (some ⟨b2, 0, none⟩)]] w (IdxPost w (now.any fun x => nb (rd_T33 l p).f0 (rd_T33 l x).f0)) := by
  have HF := Lib.hid h0
  have HNB := Lib.hid hnb0
  have HN := Lib.hid hn0
  have HQ := Lib.hid hq0
  clear h0 hnb0 hn0 hq0
  go_enter Try.func21, Try.ntmps21
  go_wp2
  go_loopw [8, 5] (fun i' v wr => IdxRel w now (fun x => nb (rd_T33 l p).f0 (rd_T33 l x).f0) i' v wr) (fun i' _ _ => now.length - (intOf i').toNat)
  case atStart => exact ⟨0, Nat.zero_le _, rfl, Lib.hid rfl, Lib.hid (Below.refl _ _)⟩
  case round =>
  obtain ⟨j, hj, rfl, HT, HB⟩ := hrel
  by_cases hlt : j < now.length
  · obtain ⟨ad', rfl, hc⟩ := Kd.at_int (Kd.C_below HN.out HB.out) (j : Int) (by omega) (by omega)
    have hjn : ((j : Int)).toNat = j := Int.toNat_natCast j
    rw [hjn] at hc
    clear hjn
    have HR : Hid (0 ≤ rd now (j : Int) ∧ rd now (j : Int) < (l.length : Int)) := Lib.hid (by
      apply HQ.out
      unfold rd
      rw [Int.toNat_natCast, List.getD_eq_getElem?_getD, List.getElem?_eq_getElem hlt]
      exact List.getElem_mem hlt)
    cases hv : nb (rd_T33 l p).f0 (rd_T33 l (rd now (j : Int))).f0 with
    | true =>
      have hr : Hid (best_not.f k apart (rd_T33 l p).f0 (rd_T33 l (rd now (j : Int))).f0 = some true) := Lib.hid (by rw [HNB.out, hv])
      have HV := Lib.hid hv
      clear hv
      go_wp2_with (first | ((with_reducible refine (may1_any wr (HF.out.below HB.out) HR.out.1 HR.out.2 hr.out).mono ?_); rintro e w2 ⟨rfl, hb2⟩))
      go_ret
      refine ⟨(j : Int), rfl, ?_, HB.out.trans (hb2.mono HB.out.size)⟩
      rw [decide_eq_true (by omega), any_up (j := j + 1) _ (by rw [any_snoc hlt, HV.out, Bool.or_true])]
    | false =>
      have hr : Hid (best_not.f k apart (rd_T33 l p).f0 (rd_T33 l (rd now (j : Int))).f0 = some false) := Lib.hid (by rw [HNB.out, hv])
      have HV := Lib.hid hv
      clear hv
      go_wp2_with (first | ((with_reducible refine (may1_any wr (HF.out.below HB.out) HR.out.1 HR.out.2 hr.out).mono ?_); rintro e w2 ⟨rfl, hb2⟩))
      go_roundw
      case rel => exact ⟨j + 1, by omega, by go_num, Lib.hid (by rw [any_snoc hlt, HT.out, HV.out]; rfl), Lib.hid (HB.out.trans (hb2.mono HB.out.size))⟩
      case measure => simp [intOf]; omega
  · go_wp2
    go_ret
    refine ⟨-1, rfl, ?_, HB.out⟩
    have := HT.out
    rw [List.take_of_length_le (by omega)] at this
    rw [this]
    rfl
/-- slices.ContainsFunc over it. -/
theorem mhas_any {b0 b1 b2 : Nat} {p : Int} {aA : Option Addr} {ad : Addr} {apart : List S39} {l : List S33} {ac lc k : Nat} {nb : Int → Int → Bool} (w : World) (h0 : MayAt w b0 b1 b2 p aA ad apart l ac lc) (hnb0 : ∀ a b, best_not.f k apart a b = some (nb a b))
    (now : List Int) (A : Option Addr) (c : Nat) (hn0 : Kd.C (Kd.int .i64) w A now.length now) (hl0 : now.length ≤ 1000) (hq0 : ∀ x ∈ now, 0 ≤ x ∧ x < (l.length : Int)) :
    Calls Try.prog 14 #[.slice A now.length c, .func (.func 15) #[] #[.pointer (some ⟨b0, 0, none⟩), .pointer (some ⟨b1, 0, none⟩), .pointer (some ⟨b2, 0, none⟩)]] w fun e w' => e = .returned (.bool (now.any fun x => nb (rd_T33 l p).f0 (rd_T33 l x).f0)) ∧ Below w.heap.size w w' := by
  have HI := Lib.hid (midx_any w h0 hnb0 now A c hn0 hl0 hq0)
  clear h0 hnb0 hn0 hq0
  go_enter Try.func14, Try.ntmps14
  go_wp2_with (first | ((with_reducible refine HI.out.mono ?_); rintro e w2 ⟨n, rfl, hd, hb2⟩))
  go_ret
  refine ⟨?_, hb2⟩
  rfl
end Go.Proofs.Ythpibikfecjoiaa.Own
