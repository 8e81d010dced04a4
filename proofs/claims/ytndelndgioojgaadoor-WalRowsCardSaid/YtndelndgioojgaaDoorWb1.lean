import Derived.Test.YtndelndgioojgaaDoorWa9
namespace Go.Proofs.YtndelndgioojgaaDoor.Own
open Go.RowKit Go.Proofs.YtndelndgioojgaaDoorW.PrintWords Go.Proofs.YtndelndgioojgaaDoorW.PrintLast Go.Proofs.YtndelndgioojgaaDoorW.PrintMore
set_option linter.unusedVariables false
set_option linter.unusedSimpArgs false
/-- A half laid down, with a snapshot. -/
def Lg.begins (g : Lg) (d : Dk) (gen : Int) (b : List Int) : Int × Lg × Dk :=
  if (d.put (placeP g.half gen).toNat (List.replicate g.half.toNat 0)).2 = true then
    if ((d.put (placeP g.half gen).toNat (List.replicate g.half.toNat 0)).1.put (placeP g.half gen).toNat (fr gen 0 b)).2 = true then
      (0, { g with gen := gen, frm := placeP g.half gen, end_ := 16 + b.length, snap := b, recs := [] }, ((d.put (placeP g.half gen).toNat (List.replicate g.half.toNat 0)).1.put (placeP g.half gen).toNat (fr gen 0 b)).1)
    else (12, { g with down := true }, ((d.put (placeP g.half gen).toNat (List.replicate g.half.toNat 0)).1.put (placeP g.half gen).toNat (fr gen 0 b)).1)
  else (12, { g with down := true }, (d.put (placeP g.half gen).toNat (List.replicate g.half.toNat 0)).1)
def BeginsPost (w0 w : World) (L p S E n : Nat) (r : Int × Lg × Dk) (e : Ending) (w' : World) : Prop :=
  e = .returned (.int .i64 r.1) ∧ ∃ sv' rv', LM w0 w' L p S E r.2.1 sv' rv' ∧ Dsk w0 w' p S E n r.2.2 ∧ Kept w w' (LS L p S E)
theorem ls_ds {L p S E : Nat} {k : Nat} (h : DS p S E k) : LS L p S E k := .inl h
/-- Bytes of a row of the call's own are there, whatever a disk's call writes. -/
theorem own_C {w0 w w3 : World} {p S E n : Nat} {d : Dk} {xs : List Int} {A : Option Addr} {m c : Nat} (hd : Dsk w0 w3 p S E n d) (hR : Kd.R (Kd.int .u8) 5 w w3.heap.size (fun _ => True) (.slice A m c) xs) : ∀ W, Kept w W (DS p S E) → Kd.C (Kd.int .u8) W A m xs := by
  have h1 := heap_lt hd.m.hp
  have h2 := heap_lt hd.m.hS
  have h3 := heap_lt hd.m.hE
  exact Kd.C_kept_own (S := DS p S E) (Kd.R_mono (Kd.R_bound hR) (ok' := fun k => w3.heap.size ≤ k) (fun k hk => hk.2.1)) (fun k hk => by rintro (rfl | rfl | rfl) <;> omega)
theorem own_C2 {w0 w w3 : World} {L p S E n : Nat} {d : Dk} {xs : List Int} {A : Option Addr} {m c : Nat} (hL : L < w3.heap.size) (hd : Dsk w0 w3 p S E n d) (hR : Kd.R (Kd.int .u8) 5 w w3.heap.size (fun _ => True) (.slice A m c) xs) : ∀ W, Kept w W (LS L p S E) → Kd.C (Kd.int .u8) W A m xs := by
  have h1 := heap_lt hd.m.hp
  have h2 := heap_lt hd.m.hS
  have h3 := heap_lt hd.m.hE
  exact Kd.C_kept_own (S := LS L p S E) (Kd.R_mono (Kd.R_bound hR) (ok' := fun k => w3.heap.size ≤ k) (fun k hk => hk.2.1)) (fun k hk => by rintro ((rfl | rfl | rfl) | rfl) <;> omega)
/-- A row just made is the call's own. -/
theorem made_R (w : World) (m : Nat) (hm : m ≤ 4194304) : Kd.R (Kd.int .u8) 5 (w.alloc (.cells (madeCells #[Value.int .u8 0] m) 5)) w.heap.size (fun _ => True) (.slice (some ⟨w.heap.size, 0, none⟩) m m) (List.replicate m 0) := by
  refine Kd.R_of_own ?_ (fun _ _ => trivial)
  have := own_made w w.heap.size 5 .u8 m (Nat.le_refl _) (by omega)
  rw [List.length_replicate]
  exact this
theorem Lm.setGen {w0 w : World} {L p S E : Nat} {half frm end_ gen : Int} {sv rv : Value} {snap : List Int} {recs : List (List Int)} {down : Bool} (h : Lm w0 w L p S E half frm end_ gen sv rv snap recs down) (e : Int) : Lm w0 (w.setCell ⟨L, 4, none⟩ (.int .u32 e)) L p S E half frm end_ e sv rv snap recs down :=
  ⟨by simpa using Go.Joins.block_setCell h.hL (i := 4) (.int .u32 e), R_setL h.hs h.hL no56a, R_setL h.hr h.hL no56b, h.nL⟩
theorem Lm.setFrm {w0 w : World} {L p S E : Nat} {half frm end_ gen : Int} {sv rv : Value} {snap : List Int} {recs : List (List Int)} {down : Bool} (h : Lm w0 w L p S E half frm end_ gen sv rv snap recs down) (e : Int) : Lm w0 (w.setCell ⟨L, 2, none⟩ (.int .i64 e)) L p S E half e end_ gen sv rv snap recs down :=
  ⟨by simpa using Go.Joins.block_setCell h.hL (i := 2) (.int .i64 e), R_setL h.hs h.hL no56a, R_setL h.hr h.hL no56b, h.nL⟩
theorem Lm.setSnap {w0 w : World} {L p S E : Nat} {half frm end_ gen : Int} {sv rv sv' : Value} {snap snap' : List Int} {recs : List (List Int)} {down : Bool} (h : Lm w0 w L p S E half frm end_ gen sv rv snap recs down) (hR : Kd.R (Kd.int .u8) 5 w w0.heap.size (fun k => k ≠ S ∧ k ≠ E) sv' snap') : Lm w0 (w.setCell ⟨L, 5, none⟩ sv') L p S E half frm end_ gen sv' rv snap' recs down :=
  ⟨by simpa using Go.Joins.block_setCell h.hL (i := 5) sv', R_setL hR h.hL no56a, R_setL h.hr h.hL no56b, h.nL⟩
theorem Lm.setRecs0 {w0 w : World} {L p S E : Nat} {half frm end_ gen : Int} {sv rv : Value} {snap : List Int} {recs : List (List Int)} {down : Bool} (h : Lm w0 w L p S E half frm end_ gen sv rv snap recs down) : Lm w0 (w.setCell ⟨L, 6, none⟩ (.slice none 0 0)) L p S E half frm end_ gen sv (.slice none 0 0) snap [] down :=
  ⟨by simpa using Go.Joins.block_setCell h.hL (i := 6) (.slice none 0 0), R_setL h.hs h.hL no56a, Kd.R_nil _ _ _ _ _, h.nL⟩
/-- A row made since is none of the disk's. -/
theorem R_since {w0 w w1 : World} {p S E n : Nat} {d : Dk} {v : Value} {xs : List Int} (hd : Dsk w0 w p S E n d) (hR : Kd.R (Kd.int .u8) 5 w1 w.heap.size (fun _ => True) v xs) : Kd.R (Kd.int .u8) 5 w1 w0.heap.size (fun k => k ≠ S ∧ k ≠ E) v xs := by
  have h2 := heap_lt hd.m.hS
  have h3 := heap_lt hd.m.hE
  exact Kd.R_lower (Kd.R_mono (Kd.R_bound hR) (fun k hk => by have := hk.2.1; omega)) hd.m.hb.size
set_option maxHeartbeats 4000000 in
set_option maxRecDepth 100000 in
theorem begins_any {w0 w : World} {L p S E n : Nat} {g : Lg} {sv rv : Value} {d : Dk} {A : Option Addr} {c : Nat} {b : List Int} {gen' : Int}
    (hl : LM w0 w L p S E g sv rv) (hd : Dsk w0 w p S E n d) (h0 : 1 ≤ g.half) (h1 : g.half ≤ 1000000) (h2 : 2 * g.half ≤ (n : Int)) (hg0 : 1 ≤ gen') (hg1 : gen' ≤ 4294967295) (hbl : 16 + (b.length : Int) ≤ g.half)
    (hbE : ∀ W, Kept w W (LS L p S E) → Kd.C (Kd.int .u8) W A b.length b) (hc : b.length ≤ c) (hby : By b) (ht : Tbl w0) :
    Calls Tryd.prog 23 #[.pointer (some ⟨L, 0, none⟩), .int .u32 gen', .slice A b.length c] w (BeginsPost w0 w L p S E n (g.begins d gen' b)) := by
  obtain ⟨half, frm, end_, gen, snap, recs, down⟩ := g
  simp only at h0 h1 h2 hbl
  obtain ⟨hN, rfl⟩ : ∃ hN : Nat, half = (hN : Int) := ⟨half.toNat, by omega⟩
  obtain ⟨a, hpl, ha1⟩ : ∃ a : Nat, placeP (hN : Int) gen' = (a : Int) ∧ a + hN ≤ n := by
    unfold placeP
    split
    · exact ⟨0, rfl, by omega⟩
    · exact ⟨hN, rfl, by omega⟩
  obtain ⟨f, hf⟩ : ∃ f, f = fr gen' 0 b := ⟨_, rfl⟩
  have hfl : f.length = 16 + b.length := by rw [hf]; exact fr_len _ _ _
  obtain ⟨r1, hr1⟩ : ∃ r, r = d.put a (List.replicate hN 0) := ⟨_, rfl⟩
  obtain ⟨r2, hr2⟩ : ∃ r, r = r1.1.put a f := ⟨_, rfl⟩
  have HBG : Hid (Lg.begins ⟨(hN : Int), frm, end_, gen, snap, recs, down⟩ d gen' b = if r1.2 = true then (if r2.2 = true then (0, ⟨(hN : Int), a, 16 + b.length, gen', b, [], down⟩, r2.1) else (12, ⟨(hN : Int), frm, end_, gen, snap, recs, true⟩, r2.1)) else (12, ⟨(hN : Int), frm, end_, gen, snap, recs, true⟩, r1.1)) := Lib.hid (by
    unfold Lg.begins
    simp only
    rw [hpl, Int.toNat_natCast, Int.toNat_natCast, ← hf, ← hr1, ← hr2])
  have hm1 := fun w => run_make_row' (P := Tryd.prog) 23 5 (.int .u8 0) 1 Tryd.underlying23 info5_ rfl .i64 .i64 hN (by omega) (by omega) w
  have HC0 := Lib.hid (hbE w (Kept.refl _ _))
  have HPUT := Lib.hid (frame_Put.calls 1 gen' 0 A c b f 0 w HC0.out hc ⟨tbl_below ht hd.m.hb⟩ (by rw [Put_f (Nat.le_refl 1) hby, if_neg (by omega), hf]))
  have HL := Lib.hid hl
  have HD := Lib.hid hd
  have HBE := Lib.hid hbE
  have HT := Lib.hid ht
  have HF := Lib.hid hf
  have HFL := Lib.hid hfl
  have HPL := Lib.hid hpl
  have HR1 := Lib.hid hr1
  have HR2 := Lib.hid hr2
  clear hl hd hbE ht hf hfl hpl hr1 hr2
  go_enter Tryd.func23, Tryd.ntmps23
  go_upto_region 4 with ((with_reducible refine HPUT.out.mono ?_); rintro e w2 ⟨v, rfl, hR, hb⟩; obtain ⟨Av, cv, rfl, _, _⟩ := Kd.R_reads hR; have HR := Lib.hid hR; have HB := Lib.hid hb; clear hR hb)
  have HL2 := Lib.hid (Lm.below HL.out HB.out)
  have HD2 := Lib.hid (HD.out.below HB.out)
  have HK2 := Lib.hid ((Kept.refl w (LS L p S E)).below HB.out)
  have l1 := cell_eq (blk_cell HL2.out.hL 1) rfl
  have HPLC : Hid (Calls Tryd.prog 38 #[.pointer (some ⟨L, 0, none⟩), .int .u32 gen'] w2 fun e w' => e = .returned (.int .i64 (a : Int)) ∧ w2 = w') := Lib.hid (by have := place_any (w := w2) (L := L) gen' (by omega) l1; rw [HPL.out] at this; exact this)
  clear HPUT HC0
  go_wp2_with (first | ((with_reducible refine HPLC.out.mono ?_); rintro e w' ⟨rfl, rfl⟩))
  have hz := made_R w2 hN (by omega)
  have HD3 := Lib.hid (HD2.out.below (w1 := w2.alloc (.cells (madeCells #[Value.int .u8 0] hN) 5)) below_new_)
  have HL3 := Lib.hid (HL2.out.below (w1 := w2.alloc (.cells (madeCells #[Value.int .u8 0] hN) 5)) below_new_)
  have HK3 := Lib.hid (HK2.out.alloc (.cells (madeCells #[Value.int .u8 0] hN) 5))
  have HW1 : Hid (Calls Tryd.prog 27 #[.pointer (some ⟨L, 0, none⟩), .int .i64 (a : Int), .slice (some ⟨w2.heap.size, 0, none⟩) hN hN] (w2.alloc (.cells (madeCells #[Value.int .u8 0] hN) 5)) (WritesPost w0 (w2.alloc (.cells (madeCells #[Value.int .u8 0] hN) 5)) L p S E n hN frm end_ gen sv rv snap recs down d a (List.replicate hN 0))) := Lib.hid (by
    have := writes_any (b := List.replicate hN 0) (A := some ⟨w2.heap.size, 0, none⟩) (c := hN) (a := a) HL3.out HD3.out (by rw [List.length_replicate]; exact own_C HD2.out hz) (by rw [List.length_replicate]; exact Nat.le_refl _) (by rw [List.length_replicate]; exact ha1) (by rw [List.length_replicate]; omega)
    rw [List.length_replicate] at this
    exact this)
  clear hz HPLC l1
  refine HW1.out.mono ?_
  rintro e w4 ⟨rfl, hd4, hl4, hk4⟩
  rw [← HR1.out] at hd4 hl4 ⊢
  have HD4 := Lib.hid hd4
  have HL4 := Lib.hid hl4
  have HK4 := Lib.hid (HK3.out.then_ hk4 (fun k hk => .inl hk))
  have HKF := Lib.hid ((Kept.refl w2 (LS L p S E)).alloc (.cells (madeCells #[Value.int .u8 0] hN) 5) |>.then_ hk4 (fun k hk => .inl hk))
  clear hd4 hl4 hk4 HW1 HD3 HL3 HK3 HR1
  have HCF : Hid (∀ W, Kept w4 W (DS p S E) → Kd.C (Kd.int .u8) W Av f.length f) := Lib.hid fun W hW => own_C2 (w := w2) (heap_lt HL.out.hL) HD.out HR.out W (HKF.out.then_ hW (fun k hk => .inl (.inl hk)))
  have hcv : f.length ≤ cv := by
    obtain ⟨A', c', e, h, _⟩ := Kd.R_reads HR.out
    cases e
    exact h
  clear HR HKF HL2 HD2 HK2 HB
  obtain ⟨d1, ok1⟩ := r1
  cases ok1 with
  | false =>
    have HRS : Hid (Lg.begins ⟨(hN : Int), frm, end_, gen, snap, recs, down⟩ d gen' b = (12, ⟨(hN : Int), frm, end_, gen, snap, recs, true⟩, d1)) := Lib.hid (HBG.out.trans (if_neg (by simp)))
    have HL5 : Hid (Lm w0 w4 L p S E hN frm end_ gen sv rv snap recs true) := Lib.hid (by have := HL4.out; rw [show (down || !(((d1, false) : Dk × Bool)).2) = true from by cases down <;> rfl] at this; exact this)
    rw [show (if ((d1, false) : Dk × Bool).2 = true then (0 : Int) else 12) = 12 from if_neg (by simp)]
    clear HBG HL4
    go_wp2
    go_ret
    rw [HRS.out]
    exact ⟨rfl, sv, rv, HL5.out, HD4.out, HK4.out⟩
  | true =>
    have HL5 : Hid (Lm w0 w4 L p S E hN frm end_ gen sv rv snap recs down) := Lib.hid (by have := HL4.out; rw [show (down || !(((d1, true) : Dk × Bool)).2) = down from by cases down <;> rfl] at this; exact this)
    rw [show (if ((d1, true) : Dk × Bool).2 = true then (0 : Int) else 12) = 0 from if_pos (by simp)]
    have HW2 := Lib.hid (writes_any (b := f) (A := Av) (c := cv) (a := a) HL5.out HD4.out HCF.out hcv (by have := HFL.out; omega) (by have := HFL.out; omega))
    clear HL4 HCF
    go_wp2_with fail
    refine HW2.out.mono ?_
    rintro e w5 ⟨rfl, hd5, hl5, hk5⟩
    rw [← HR2.out] at hd5 hl5 ⊢
    have HD6 := Lib.hid hd5
    have HL6 := Lib.hid hl5
    have HK6 := Lib.hid (HK4.out.then_ hk5 (fun k hk => .inl hk))
    clear hd5 hl5 hk5 HW2 HR2 HL5 HK4
    obtain ⟨d2, ok2⟩ := r2
    cases ok2 with
    | false =>
      have HRS : Hid (Lg.begins ⟨(hN : Int), frm, end_, gen, snap, recs, down⟩ d gen' b = (12, ⟨(hN : Int), frm, end_, gen, snap, recs, true⟩, d2)) := Lib.hid (HBG.out.trans ((if_pos (by simp)).trans (if_neg (by simp))))
      have HL7 : Hid (Lm w0 w5 L p S E hN frm end_ gen sv rv snap recs true) := Lib.hid (by have := HL6.out; rw [show (down || !(((d2, false) : Dk × Bool)).2) = true from by cases down <;> rfl] at this; exact this)
      rw [show (if ((d2, false) : Dk × Bool).2 = true then (0 : Int) else 12) = 12 from if_neg (by simp)]
      clear HBG HL6
      go_wp2
      go_ret
      rw [HRS.out]
      exact ⟨rfl, sv, rv, HL7.out, HD6.out, HK6.out⟩
    | true =>
      have HRS : Hid (Lg.begins ⟨(hN : Int), frm, end_, gen, snap, recs, down⟩ d gen' b = (0, ⟨(hN : Int), a, 16 + b.length, gen', b, [], down⟩, d2)) := Lib.hid (HBG.out.trans ((if_pos (by simp)).trans (if_pos (by simp))))
      have HL7 : Hid (Lm w0 w5 L p S E hN frm end_ gen sv rv snap recs down) := Lib.hid (by have := HL6.out; rw [show (down || !(((d2, true) : Dk × Bool)).2) = down from by cases down <;> rfl] at this; exact this)
      rw [show (if ((d2, true) : Dk × Bool).2 = true then (0 : Int) else 12) = 0 from if_pos (by simp)]
      have q2 := cell_eq (blk_cell HL7.out.hL 2) rfl
      have q3 := cell_eq (blk_cell HL7.out.hL 3) rfl
      have q4 := cell_eq (blk_cell HL7.out.hL 4) rfl
      have y2 := blk_frozen HL7.out.hL 2
      have y3 := blk_frozen HL7.out.hL 3
      have y4 := blk_frozen HL7.out.hL 4
      clear HBG HL6
      go_upto_region 12 with (fail)
      have HL8 := Lib.hid (((HL7.out.setGen gen').setFrm a).setEnd f.length)
      have HD8 := Lib.hid (((HD6.out.setL HL7.out.hL HL7.out.nL 4 (.int .u32 gen')).setL (HL7.out.setGen gen').hL HL7.out.nL 2 (.int .i64 a)).setL ((HL7.out.setGen gen').setFrm a).hL HL7.out.nL 3 (.int .i64 f.length))
      have HK8 := Lib.hid ((((HK6.out.setCell (p := ⟨L, 4, none⟩) (.inl (.inr rfl)) (.int .u32 gen')).setCell (p := ⟨L, 2, none⟩) (.inl (.inr rfl)) (.int .i64 a)).setCell (p := ⟨L, 3, none⟩) (.inl (.inr rfl)) (.int .i64 f.length)))
      clear q2 q3 q4 y2 y3 y4 HL7 HD6 HK6
      generalize ((w5.setCell ⟨L, 4, none⟩ (.int .u32 gen')).setCell ⟨L, 2, none⟩ (.int .i64 a)).setCell ⟨L, 3, none⟩ (.int .i64 f.length) = w6 at HL8 HD8 HK8 ⊢
      have HCL := Lib.hid (slices_Clone_byte_byte.calls A c b b w6 (HBE.out w6 HK8.out) hc (clone_bytes (by omega)))
      have q6 := cell_eq (blk_cell HL8.out.hL 6) rfl
      have q5 := cell_eq (blk_cell HL8.out.hL 5) rfl
      have y5 := blk_frozen HL8.out.hL 5
      have y6 := blk_frozen HL8.out.hL 6
      go_wp2_with (first | ((with_reducible refine HCL.out.mono ?_); rintro e w7 ⟨vb, rfl, hR, hb⟩; obtain ⟨Ab, cb, rfl, _, _⟩ := Kd.R_reads hR; have HR7 := Lib.hid hR; have HB7 := Lib.hid hb; clear hR hb; have HL9 := Lib.hid (Lm.below HL8.out HB7.out); have q5' := cell_eq (blk_cell HL9.out.hL 5) rfl; have y5' := blk_frozen HL9.out.hL 5; have q6' := cell_eq (blk_cell HL9.out.hL 6) rfl; have y6' := blk_frozen HL9.out.hL 6))
      go_ret
      rw [HRS.out]
      have HR8 := R_since HD8.out HR7.out
      have HD9 := HD8.out.below HB7.out
      have HLa := HL9.out.setSnap HR8
      refine ⟨rfl, .slice Ab b.length cb, .slice none 0 0, ?_, (HD9.setL HL9.out.hL HL9.out.nL 5 (.slice Ab b.length cb)).setL HLa.hL HLa.nL 6 (.slice none 0 0), ((HK8.out.below HB7.out).setCell (.inl (.inr rfl)) _).setCell (.inl (.inr rfl)) _⟩
      show Lm w0 _ L p S E hN a (16 + b.length) gen' (.slice Ab b.length cb) (.slice none 0 0) b [] down
      rw [show (16 + (b.length : Int)) = (f.length : Int) from by have := HFL.out; omega]
      exact HLa.setRecs0
end Go.Proofs.YtndelndgioojgaaDoor.Own
