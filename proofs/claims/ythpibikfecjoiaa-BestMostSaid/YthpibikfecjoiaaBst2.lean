import Derived.Test.YthpibikfecjoiaaBst1
namespace Go.Proofs.Ythpibikfecjoiaa.Own
open Go.RowKit Go.Proofs.YthpibikfecjoiaaW.PrintWords Go.Proofs.YthpibikfecjoiaaW.PrintLast Go.Proofs.YthpibikfecjoiaaW.PrintMore
set_option linter.unusedVariables false
set_option linter.unusedSimpArgs false
/-- What the closure of fits reads. -/
structure FitsAt (w : World) (p b1 b2 : Nat) (i : Int) (aA : Option Addr) (ad : Addr) (apart : List S39) (l : List S33) (ac lc : Nat) : Prop where
  h1 : w.cell? ⟨b1, 0, none⟩ = some (.pointer (some ⟨p, 0, none⟩))
  h2 : w.cell? ⟨b2, 0, none⟩ = some (.int .i64 i)
  h3 : w.cell? ⟨p, 3, none⟩ = some (.slice aA apart.length ac)
  h4 : w.cell? ⟨p, 0, none⟩ = some (.slice (some ad) l.length lc)
  h5 : w.cell? (ad.add (i.toNat * 2)) = some (.int .u32 (rd_T33 l i).f0)
  ha : Kd.C k39 w aA apart.length apart
  hac : apart.length ≤ ac
  h0 : 0 ≤ i
  hi : i < (l.length : Int)
theorem FitsAt.below {w w1 : World} {p b1 b2 : Nat} {i : Int} {aA : Option Addr} {ad : Addr} {apart : List S39} {l : List S33} {ac lc : Nat} (h : FitsAt w p b1 b2 i aA ad apart l ac lc) (hb : Below w.heap.size w w1) : FitsAt w1 p b1 b2 i aA ad apart l ac lc :=
  ⟨pw_cell_below hb h.h1, pw_cell_below hb h.h2, pw_cell_below hb h.h3, pw_cell_below hb h.h4, pw_cell_below hb h.h5, Kd.C_below h.ha hb, h.hac, h.h0, h.hi⟩
def IdxPost (w : World) (b : Bool) (e : Ending) (w' : World) : Prop := ∃ n : Int, e = .returned (.int .i64 n) ∧ (decide (n ≥ 0)) = b ∧ Below w.heap.size w w'
def IdxRel (w : World) (now : List Int) (q : Int → Bool) (i v : Value) (wr : World) : Prop := ∃ j : Nat, j ≤ now.length ∧ i = .int .i64 j ∧ Hid ((now.take j).any q = false) ∧ Hid (Below w.heap.size w wr)
theorem any_snoc {now : List Int} {j : Nat} (h : j < now.length) (q : Int → Bool) : (now.take (j + 1)).any q = ((now.take j).any q || q (rd now (j : Int))) := by
  rw [List.take_succ_eq_append_getElem h, List.any_append]
  unfold rd
  rw [Int.toNat_natCast, List.getD_eq_getElem?_getD, List.getElem?_eq_getElem h]
  simp
theorem any_up {now : List Int} {j : Nat} (q : Int → Bool) (h : (now.take j).any q = true) : now.any q = true := by
  rw [List.any_eq_true] at h ⊢
  obtain ⟨x, hx, hq⟩ := h
  exact ⟨x, List.mem_of_mem_take hx, hq⟩
set_option maxHeartbeats 1000000 in
set_option maxRecDepth 100000 in
theorem idx_any {p b1 b2 : Nat} {i : Int} {aA : Option Addr} {ad : Addr} {apart : List S39} {l : List S33} {ac lc k : Nat} {nb : Int → Int → Bool} (w : World) (h0 : FitsAt w p b1 b2 i aA ad apart l ac lc) (hnb0 : ∀ a b, best_not.f k apart a b = some (nb a b))
    (now : List Int) (A : Option Addr) (c : Nat) (hn0 : Kd.C (Kd.int .u32) w A now.length now) (hl0 : now.length ≤ 1000) :
    Calls Try.prog 26 #[.slice A now.length c, .func (.func 24) #[] #[.pointer (some ⟨b1, 0, none⟩), .pointer (some ⟨b2, 0, none⟩)]] w (IdxPost w (now.any fun x => nb x (rd_T33 l i).f0)) := by
  have HF := Lib.hid h0
  have HNB := Lib.hid hnb0
  have HN := Lib.hid hn0
  clear h0 hnb0 hn0
  go_enter Try.func26, Try.ntmps26
  go_wp2
  go_loopw [8, 5] (fun i' v wr => IdxRel w now (fun x => nb x (rd_T33 l i).f0) i' v wr) (fun i' _ _ => now.length - (intOf i').toNat)
  case atStart => exact ⟨0, Nat.zero_le _, rfl, Lib.hid rfl, Lib.hid (Below.refl _ _)⟩
  case round =>
  obtain ⟨j, hj, rfl, HT, HB⟩ := hrel
  by_cases hlt : j < now.length
  · obtain ⟨ad', rfl, hc⟩ := Kd.at_int (Kd.C_below HN.out HB.out) (j : Int) (by omega) (by omega)
    have hjn : ((j : Int)).toNat = j := Int.toNat_natCast j
    rw [hjn] at hc
    clear hjn
    cases hv : nb (rd now (j : Int)) (rd_T33 l i).f0 with
    | true =>
      have hr : Hid (best_not.f k apart (rd now (j : Int)) (rd_T33 l i).f0 = some true) := Lib.hid (by rw [HNB.out, hv])
      have HV := Lib.hid hv
      clear hv
      go_wp2_with (first | ((with_reducible refine (fits1_any wr (HF.out.below HB.out).h1 (HF.out.below HB.out).h2 (HF.out.below HB.out).h3 (HF.out.below HB.out).h4 (HF.out.below HB.out).h5 (HF.out.below HB.out).ha HF.out.hac HF.out.h0 HF.out.hi hr.out).mono ?_); rintro e w2 ⟨rfl, hb2⟩))
      go_ret
      refine ⟨(j : Int), rfl, ?_, HB.out.trans (hb2.mono HB.out.size)⟩
      rw [decide_eq_true (by omega), any_up (j := j + 1) _ (by rw [any_snoc hlt, HV.out, Bool.or_true])]
    | false =>
      have hr : Hid (best_not.f k apart (rd now (j : Int)) (rd_T33 l i).f0 = some false) := Lib.hid (by rw [HNB.out, hv])
      have HV := Lib.hid hv
      clear hv
      go_wp2_with (first | ((with_reducible refine (fits1_any wr (HF.out.below HB.out).h1 (HF.out.below HB.out).h2 (HF.out.below HB.out).h3 (HF.out.below HB.out).h4 (HF.out.below HB.out).h5 (HF.out.below HB.out).ha HF.out.hac HF.out.h0 HF.out.hi hr.out).mono ?_); rintro e w2 ⟨rfl, hb2⟩))
      go_roundw
      case rel => exact ⟨j + 1, by omega, by go_num, Lib.hid (by rw [any_snoc hlt, HT.out, HV.out]; rfl), Lib.hid (HB.out.trans (hb2.mono HB.out.size))⟩
      case measure => simp [intOf]; omega
  · go_wp2
    go_ret
    refine ⟨-1, rfl, ?_, HB.out⟩
    have := HT.out
    rw [List.take_of_length_le (by omega)] at this
    rw [this]
    rfl
/-- slices.ContainsFunc over it. -/
theorem has_any {p b1 b2 : Nat} {i : Int} {aA : Option Addr} {ad : Addr} {apart : List S39} {l : List S33} {ac lc k : Nat} {nb : Int → Int → Bool} (w : World) (h0 : FitsAt w p b1 b2 i aA ad apart l ac lc) (hnb0 : ∀ a b, best_not.f k apart a b = some (nb a b))
    (now : List Int) (A : Option Addr) (c : Nat) (hn0 : Kd.C (Kd.int .u32) w A now.length now) (hl0 : now.length ≤ 1000) :
    Calls Try.prog 23 #[.slice A now.length c, .func (.func 24) #[] #[.pointer (some ⟨b1, 0, none⟩), .pointer (some ⟨b2, 0, none⟩)]] w fun e w' => e = .returned (.bool (now.any fun x => nb x (rd_T33 l i).f0)) ∧ Below w.heap.size w w' := by
  have HI := Lib.hid (idx_any w h0 hnb0 now A c hn0 hl0)
  clear h0 hnb0 hn0
  go_enter Try.func23, Try.ntmps23
  go_wp2_with (first | ((with_reducible refine HI.out.mono ?_); rintro e w2 ⟨n, rfl, hd, hb2⟩))
  go_ret
  refine ⟨?_, hb2⟩
  rfl
end Go.Proofs.Ythpibikfecjoiaa.Own
