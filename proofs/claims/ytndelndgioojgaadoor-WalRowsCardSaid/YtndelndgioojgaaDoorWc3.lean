import Derived.Test.YtndelndgioojgaaDoorWc2
namespace Go.Proofs.YtndelndgioojgaaDoor.Own
open Go.RowKit Go.Proofs.YtndelndgioojgaaDoorW.PrintWords Go.Proofs.YtndelndgioojgaaDoorW.PrintLast Go.Proofs.YtndelndgioojgaaDoorW.PrintMore
set_option linter.unusedVariables false
set_option linter.unusedSimpArgs false
/-- One row of rows of bytes. -/
theorem at_row {w : World} {A : Option Addr} {n : Nat} {rows : List (List Int)} (h : (Kd.slice 5 (Kd.int .u8)).C w A n rows) (j : Nat) (hj : j < rows.length) :
    ∃ ad B c, A = some ad ∧ w.cell? (ad.add j) = some (.slice B (rows.getD j []).length c) ∧ (rows.getD j []).length ≤ c ∧ (Kd.int .u8).C w B (rows.getD j []).length (rows.getD j []) := by
  obtain ⟨ad, rfl, hc⟩ := h.2.2 (by have := h.1; omega)
  obtain ⟨cs, hl, ⟨B, c, rfl, h2, h3⟩, h4⟩ := hc j _ (List.getElem?_eq_getElem hj)
  have hg : rows.getD j [] = rows[j] := by rw [List.getD_eq_getElem?_getD, List.getElem?_eq_getElem hj]; rfl
  rw [hg]
  refine ⟨ad, B, c, rfl, ?_, h2, h3⟩
  have := h4 0 _ rfl
  simpa [Kd.slice] using this
theorem own_since {wr w2 : World} {base : Nat} {v u : Value} {rows : List (List Int)} {b : List Int} (h : Kd.R (Kd.slice 5 (Kd.int .u8)) 23 wr base (fun _ => True) v rows) (hb : base ≤ wr.heap.size) (hR : Kd.R (Kd.int .u8) 5 w2 wr.heap.size (fun _ => True) u b) :
    Kd.R (Kd.int .u8) 5 w2 base (fun k => some k ≠ v.ownBlock) u b := by
  refine Kd.R_lower (Kd.R_mono (Kd.R_bound hR) (fun k hk e => ?_)) hb
  obtain ⟨_, inner, ho, _⟩ := h
  have := (ho.lt k e.symm).2
  omega
def RecRel (w : World) (recs : List (List Int)) (i v : Value) (wr : World) : Prop :=
  ∃ (j : Nat) (out : List (List Int)), j ≤ recs.length ∧ i = .int .i64 (j : Int) ∧ Hid (out.length = j) ∧ Hid (out = recs.take j) ∧ Hid (Kd.R (Kd.slice 5 (Kd.int .u8)) 23 wr w.heap.size (fun _ => True) v out) ∧ Hid (Below w.heap.size w wr)
set_option maxHeartbeats 4000000 in
set_option maxRecDepth 100000 in
theorem records_any {w0 w : World} {L p S E : Nat} {half frm end_ gen : Int} {sv rv : Value} {snap : List Int} {recs : List (List Int)} {down : Bool} (hl : Lm w0 w L p S E half frm end_ gen sv rv snap recs down) (hs : ∀ r ∈ recs, r.length ≤ 4194304) (hn : recs.length ≤ 1000000) :
    Calls Tryd.prog 19 #[.pointer (some ⟨L, 0, none⟩)] w fun e w' => ∃ v : Value, e = .returned v ∧ Kd.R (Kd.slice 5 (Kd.int .u8)) 23 w' w.heap.size (fun _ => True) v recs ∧ Below w.heap.size w w' := by
  obtain ⟨A, c, rfl, hc, hC⟩ := Kd.R_reads hl.hr
  have l6 := cell_eq (blk_cell hl.hL 6) rfl
  have HC := Lib.hid hC
  have HS := Lib.hid hs
  clear hl hC hs
  go_enter Tryd.func19, Tryd.ntmps19
  go_wp2
  go_loopw [13, 3] (fun i' v wr => RecRel w recs i' v wr) (fun i' _ _ => recs.length - (intOf i').toNat)
  case atStart => exact ⟨0, [], Nat.zero_le _, rfl, Lib.hid rfl, Lib.hid rfl, Lib.hid (Kd.R_nil _ _ _ _ _), Lib.hid (Below.refl _ _)⟩
  case round =>
  obtain ⟨j, out, hj, rfl, ho, HO, HR, HB⟩ := hrel
  obtain ⟨oA, oc, rfl, _, hoC⟩ := Kd.R_reads HR.out
  clear hoC
  by_cases hlt : j < recs.length
  · obtain ⟨ad, B, cb, rfl, hcell, hcb, hCB⟩ := at_row (Kd.C_below HC.out HB.out) j hlt
    obtain ⟨b, hb⟩ : ∃ b, b = recs.getD j [] := ⟨_, rfl⟩
    rw [← hb] at hcell hcb hCB
    have hbl : b.length ≤ 4194304 := by
      rw [hb, List.getD_eq_getElem?_getD, List.getElem?_eq_getElem hlt]
      exact HS.out _ (List.getElem_mem _)
    have HCL := Lib.hid (slices_Clone_byte_byte.calls B cb b b wr hCB hcb (clone_bytes (by omega)))
    have HBE := Lib.hid hb
    clear hCB hb
    go_upto_region 8 with (first | ((with_reducible refine HCL.out.mono ?_); rintro e w2 ⟨v, rfl, hR2, hB2⟩; obtain ⟨Av, cv, rfl, _, hxx⟩ := Kd.R_reads hR2; clear hxx; have HR2 := Lib.hid hR2; have HB2 := Lib.hid hB2; clear hR2 hB2) | (((with_reducible refine gate_builtin (b := .append) (xs := #[.tmp 17, .tmp 20]) rfl ?_); (try (refine gate_guard (by rfl) ?_; dsimp only)); at_builtin; refine Kd.R_append (W := w2) (w0 := w) (Kd.slice 5 (Kd.int .u8)) w.heap.size rfl (.tmp 17) (.tmp 20) 36 23 (.slice none 0 0) 24 rfl Tryd.underlying36 info23_ rfl (by decide) (by decide) (.slice oA out.length oc) out b [.slice Av b.length cv] (fun _ => True) (fun k => some k ≠ (Value.slice oA out.length oc).ownBlock) rfl rfl ⟨_, rfl, own_since HR.out HB.out.size HR2.out⟩ (fun _ h => ⟨trivial, h⟩) (fun _ _ => trivial) (Kd.R_below HR.out HB2.out) (HB.out.trans (HB2.out.mono HB.out.size)) (Nat.le_trans HB.out.size HB2.out.size) (by have := ho.out; omega) ?_; intro v1 w3 hR3 hb3 hg3 hat3; obtain ⟨out2, hout2⟩ : ∃ x, x = out ++ [b] := ⟨_, rfl⟩; rw [← hout2] at hR3; have HRS2 := Lib.hid hout2; clear hout2 hg3 hat3; obtain ⟨A1, c1, rfl, _, hxx⟩ := Kd.R_reads hR3; clear hxx; have HR3 := Lib.hid hR3; have HB3 := Lib.hid hb3; clear hR3 hb3)))
    go_wp2
    go_roundw
    case rel =>
      refine ⟨j + 1, out2, by omega, by go_num, Lib.hid (by rw [HRS2.out, List.length_append, ho.out]; rfl), Lib.hid ?_, HR3, HB3⟩
      rw [HRS2.out, HO.out, HBE.out, List.take_add_one, List.getElem?_eq_getElem hlt, List.getD_eq_getElem?_getD, List.getElem?_eq_getElem hlt]
      rfl
    case measure => simp [intOf]; omega
  · go_wp2
    go_ret
    refine ⟨_, rfl, ?_, HB.out⟩
    have := HO.out
    rw [List.take_of_length_le (by omega)] at this
    rw [← this]
    exact HR.out
end Go.Proofs.YtndelndgioojgaaDoor.Own
