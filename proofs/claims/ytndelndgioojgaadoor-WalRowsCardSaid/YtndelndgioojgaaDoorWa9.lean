import Derived.Test.YtndelndgioojgaaDoorWa8
namespace Go.Proofs.YtndelndgioojgaaDoor.Own
open Go.RowKit Go.Proofs.YtndelndgioojgaaDoorW.PrintWords Go.Proofs.YtndelndgioojgaaDoorW.PrintLast Go.Proofs.YtndelndgioojgaaDoorW.PrintMore
set_option linter.unusedVariables false
set_option linter.unusedSimpArgs false
/-- A log, told. -/
structure Lg where
  half : Int
  frm : Int
  end_ : Int
  gen : Int
  snap : List Int
  recs : List (List Int)
  down : Bool
/-- A log in memory, told. -/
def LM (w0 w : World) (L p S E : Nat) (g : Lg) (sv rv : Value) : Prop := Lm w0 w L p S E g.half g.frm g.end_ g.gen sv rv g.snap g.recs g.down
/-- What can be said of a log on a disk of n bytes. -/
structure Fit (n : Nat) (g : Lg) : Prop where
  h0 : 0 ≤ g.half
  h1 : g.half ≤ 1000000
  f0 : 0 ≤ g.frm
  f1 : g.frm + g.half ≤ (n : Int)
  e0 : 0 ≤ g.end_
  e1 : g.end_ ≤ g.half
  g0 : 1 ≤ g.gen
  g1 : g.gen ≤ 4294967295
  r1 : (g.recs.length : Int) ≤ g.end_
theorem Fit.rl {n : Nat} {g : Lg} (h : Fit n g) : g.recs.length ≤ 1000000 := by
  have := h.r1
  have := h.e1
  have := h.h1
  omega
def Lg.append (g : Lg) (d : Dk) (b : List Int) : Int × Lg × Dk :=
  if (g.down || d.off) = true then (12, { g with down := true }, d)
  else if roomP g.half g.end_ < (b.length : Int) then (7, g, d)
  else
    if (d.put (g.frm + g.end_).toNat (fr g.gen ((g.recs.length : Int) + 1) b)).2 = true then (0, { g with end_ := g.end_ + (16 + b.length), recs := g.recs ++ [b] }, (d.put (g.frm + g.end_).toNat (fr g.gen ((g.recs.length : Int) + 1) b)).1)
    else (12, { g with down := true }, (d.put (g.frm + g.end_).toNat (fr g.gen ((g.recs.length : Int) + 1) b)).1)
/-- What a log's call writes of the blocks that are there. -/
def AS (L p S E : Nat) (rv : Value) (k : Nat) : Prop := LS L p S E k ∨ some k = rv.ownBlock
def AppendPost (w0 w : World) (L p S E n : Nat) (sv rv : Value) (r : Int × Lg × Dk) (e : Ending) (w' : World) : Prop :=
  e = .returned (.int .i64 r.1) ∧ ∃ rv', LM w0 w' L p S E r.2.1 sv rv' ∧ Dsk w0 w' p S E n r.2.2 ∧ Kept w w' (AS L p S E rv)
theorem Dsk.hb {w0 w : World} {p S E n : Nat} {d : Dk} (h : Dsk w0 w p S E n d) : Below w0.heap.size w0 w := h.m.hb
theorem Lm.setEnd {w0 w : World} {L p S E : Nat} {half frm end_ gen : Int} {sv rv : Value} {snap : List Int} {recs : List (List Int)} {down : Bool} (h : Lm w0 w L p S E half frm end_ gen sv rv snap recs down) (e : Int) : Lm w0 (w.setCell ⟨L, 3, none⟩ (.int .i64 e)) L p S E half frm e gen sv rv snap recs down :=
  ⟨by simpa using Go.Joins.block_setCell h.hL (i := 3) (.int .i64 e), R_setL h.hs h.hL no56a, R_setL h.hr h.hL no56b, h.nL⟩
set_option maxHeartbeats 4000000 in
set_option maxRecDepth 100000 in
theorem append_any {w0 w : World} {L p S E n : Nat} {g : Lg} {sv rv : Value} {d : Dk} {A : Option Addr} {c : Nat} {b : List Int}
    (hl : LM w0 w L p S E g sv rv) (hd : Dsk w0 w p S E n d) (hft : Fit n g) (hbE : ∀ W, Kept w W (LS L p S E) → Kd.C (Kd.int .u8) W A b.length b) (hc : b.length ≤ c) (hby : By b) (ht : Tbl w0) :
    Calls Tryd.prog 10 #[.pointer (some ⟨L, 0, none⟩), .slice A b.length c] w (AppendPost w0 w L p S E n sv rv (g.append d b)) := by
  have HFE := Lib.hid (fell_any hl hd)
  have HBE := Lib.hid hbE
  have HFT := Lib.hid hft
  have HT := Lib.hid ht
  clear hl hd hbE hft ht
  obtain ⟨half, frm, end_, gen, snap, recs, down⟩ := g
  obtain ⟨a1, a2, a3, a4, a5, a6, a7, a8, a9⟩ := HFT.out
  simp only at a1 a2 a3 a4 a5 a6 a7 a8 a9
  have HA : Hid (0 ≤ half ∧ half ≤ 1000000 ∧ 0 ≤ frm ∧ frm + half ≤ (n : Int) ∧ 0 ≤ end_ ∧ end_ ≤ half ∧ 1 ≤ gen ∧ gen ≤ 4294967295 ∧ (recs.length : Int) ≤ end_) := Lib.hid ⟨a1, a2, a3, a4, a5, a6, a7, a8, a9⟩
  clear a1 a2 a3 a4 a5 a6 a7 a8 a9 HFT
  cases hdn : (down || d.off) with
  | true =>
    have HAP : Hid (Lg.append ⟨half, frm, end_, gen, snap, recs, down⟩ d b = (12, ⟨half, frm, end_, gen, snap, recs, true⟩, d)) := Lib.hid (by unfold Lg.append; rw [if_pos hdn])
    have HDN := Lib.hid hdn
    clear hdn
    go_enter Tryd.func10, Tryd.ntmps10
    go_wp2_with (first | ((with_reducible refine HFE.out.mono ?_); rintro e w2 ⟨rfl, hd2, hl2, hk2⟩; rw [HDN.out] at hl2 ⊢; have HD2 := Lib.hid hd2; have HL2 := Lib.hid hl2; have HK2 := Lib.hid hk2; clear hd2 hl2 hk2))
    go_ret
    rw [HAP.out]
    exact ⟨rfl, rv, HL2.out, HD2.out, HK2.out.mono (fun k hk => .inl hk)⟩
  | false =>
    have HDN := Lib.hid hdn
    have HDO : Hid (down = false ∧ d.off = false) := Lib.hid (by simpa using hdn)
    clear hdn
    go_enter Tryd.func10, Tryd.ntmps10
    go_upto_region 3 with ((with_reducible refine HFE.out.mono ?_); rintro e w2 ⟨rfl, hd2, hl2, hk2⟩; rw [HDN.out] at hl2 ⊢; have HD2 := Lib.hid hd2; have HL2 := Lib.hid hl2; have HK2 := Lib.hid hk2; clear hd2 hl2 hk2)
    have l1 := cell_eq (blk_cell HL2.out.hL 1) rfl
    have l3 := cell_eq (blk_cell HL2.out.hL 3) rfl
    have HRM := Lib.hid (room_any (w := w2) l1 l3 HA.out.1 (by have := HA.out; omega) HA.out.2.2.2.2.1 (by have := HA.out; omega))
    clear HFE
    by_cases hrm : roomP half end_ < (b.length : Int)
    · have HAP : Hid (Lg.append ⟨half, frm, end_, gen, snap, recs, down⟩ d b = (7, ⟨half, frm, end_, gen, snap, recs, down⟩, d)) := Lib.hid (by unfold Lg.append; rw [if_neg (by rw [HDN.out]; simp), if_pos hrm])
      go_wp2_with (first | ((with_reducible refine HRM.out.mono ?_); rintro e w3 ⟨rfl, hb3⟩; have HB3 := Lib.hid hb3; clear hb3))
      go_ret
      rw [HAP.out]
      exact ⟨rfl, rv, by rw [HDO.out.1]; exact HL2.out.below HB3.out, HD2.out.below HB3.out, (HK2.out.below HB3.out).mono (fun k hk => .inl hk)⟩
    · have hrm2 : ¬ (b.length : Int) > roomP half end_ := hrm
      have hbr : (b.length : Int) ≤ half - end_ - 16 := by
        have : (b.length : Int) ≤ roomP half end_ := by omega
        unfold roomP at this
        split at this <;> omega
      have HBR := Lib.hid hbr
      clear hbr
      go_upto_region 5 with ((with_reducible refine HRM.out.mono ?_); rintro e w3 ⟨rfl, hb3⟩; have HB3 := Lib.hid hb3; clear hb3)
      have HL3 := Lib.hid (HL2.out.below HB3.out)
      have HD3 := Lib.hid (HD2.out.below HB3.out)
      have HK3 := Lib.hid (HK2.out.below HB3.out)
      have HC3 := Lib.hid (HBE.out w3 HK3.out)
      have HT3 := Lib.hid (tbl_below HT.out HD3.out.hb)
      clear HRM l1 l3 HL2 HD2 HK2 HB3 hrm2
      have HRI := Lib.hid hrm
      clear hrm
      refine ap5_wp HL3 HD3 HC3 HT3 hc (by have := HBR.out; have := HA.out; omega) hby HA.out.2.2.2.2.2.2.1 (by have := HA.out; omega) (Lib.hid fun c a N v w h => by cases N <;> exact h) (Lib.hid ?_)
      intro d17 d18 d19 d20 d21 d22 d23 d24 d25 d26 d27 d28 d29 d30 d31 d32 Av cv w4 HL4 HD4 HB4 HR4
      obtain ⟨f, hf⟩ : ∃ f, f = fr gen ((recs.length : Int) + 1) b := ⟨_, rfl⟩
      have HFL : Hid (f.length = 16 + b.length) := Lib.hid (by rw [hf]; exact fr_len _ _ _)
      rw [← hf] at HR4 ⊢
      have HF := Lib.hid hf
      clear hf
      obtain ⟨a, hfe⟩ : ∃ a : Nat, frm + end_ = (a : Int) := ⟨(frm + end_).toNat, by have := HA.out; omega⟩
      have HPE : Hid (Lg.append ⟨half, frm, end_, gen, snap, recs, down⟩ d b = if (d.put a f).2 = true then (0, ⟨half, frm, end_ + (16 + b.length), gen, snap, recs ++ [b], down⟩, (d.put a f).1) else (12, ⟨half, frm, end_, gen, snap, recs, true⟩, (d.put a f).1)) := Lib.hid (by
        unfold Lg.append
        rw [if_neg (by rw [HDN.out]; simp), if_neg (show ¬ roomP half end_ < (b.length : Int) by have := HRI.out; omega)]
        simp only
        rw [hfe, Int.toNat_natCast, ← HF.out])
      have HCE : Hid (∀ W, Kept w4 W (DS p S E) → Kd.C (Kd.int .u8) W Av f.length f) := Lib.hid (by
        have h1 := heap_lt HD3.out.m.hp
        have h2 := heap_lt HD3.out.m.hS
        have h3 := heap_lt HD3.out.m.hE
        exact Kd.C_kept_own (S := DS p S E) (Kd.R_mono (Kd.R_bound HR4.out) (ok' := fun k => w3.heap.size ≤ k) (fun k hk => hk.2.1)) (fun k hk => by rintro (rfl | rfl | rfl) <;> omega))
      have hcv : f.length ≤ cv := by
        obtain ⟨A', c', e, h, _⟩ := Kd.R_reads HR4.out
        cases e
        exact h
      have HK4 := Lib.hid (HK3.out.below HB4.out)
      clear HR4 HC3 HT3 HL3 HD3 HK3 HB4
      go_wp2
      refine ap8_wp HL4 HD4 HCE hcv hfe (by have := HA.out; have := HBR.out; have := HFL.out; omega) (by have := HFL.out; omega) HD4.out.m.hn (Lib.hid fun c a N v w h => by cases N <;> exact h) (Lib.hid ?_)
      intro d35 d36 d37 d38 d39 d40 d41 d42 d43 d44 d45 d46 w5 HD5 HL5 HK5
      have HK6 := Lib.hid (HK4.out.then_ HK5.out (fun k hk => .inl hk))
      clear HCE HL4 HD4 HK4 HK5 hfe
      obtain ⟨r, hr⟩ : ∃ r, r = d.put a f := ⟨_, rfl⟩
      rw [← hr] at HD5 HL5 HPE ⊢
      clear hr
      obtain ⟨d', okb⟩ := r
      cases okb with
      | false =>
        have HAP : Hid (Lg.append ⟨half, frm, end_, gen, snap, recs, down⟩ d b = (12, ⟨half, frm, end_, gen, snap, recs, true⟩, d')) := Lib.hid (HPE.out.trans (if_neg (by simp)))
        have HL5' : Hid (Lm w0 w5 L p S E half frm end_ gen sv rv snap recs true) := Lib.hid HL5.out
        rw [show (if ((d', false) : Dk × Bool).2 = true then (0 : Int) else 12) = 12 from if_neg (by simp)]
        clear HPE HL5
        go_wp2
        go_ret
        rw [HAP.out]
        exact ⟨rfl, rv, HL5'.out, HD5.out, HK6.out.mono (fun k hk => .inl hk)⟩
      | true =>
        have HAP : Hid (Lg.append ⟨half, frm, end_, gen, snap, recs, down⟩ d b = (0, ⟨half, frm, end_ + (16 + b.length), gen, snap, recs ++ [b], down⟩, d')) := Lib.hid (HPE.out.trans (if_pos (by simp)))
        have HL5' : Hid (Lm w0 w5 L p S E half frm end_ gen sv rv snap recs down) := Lib.hid (by rw [HDO.out.1]; exact HL5.out)
        rw [show (if ((d', true) : Dk × Bool).2 = true then (0 : Int) else 12) = 0 from if_pos (by simp)]
        have l3 := cell_eq (blk_cell HL5'.out.hL 3) rfl
        have g3 := blk_frozen HL5'.out.hL 3
        have hw : wrap64 (end_ + (f.length : Int)) = end_ + (f.length : Int) := by
          have := HA.out
          have := HBR.out
          have := HFL.out
          unfold wrap64
          omega
        clear HPE HL5
        go_upto_region 12 with (fail)
        have HL6 := Lib.hid (HL5'.out.setEnd (end_ + (f.length : Int)))
        have HD6 := Lib.hid (HD5.out.setL HL5'.out.hL HL5'.out.nL 3 (.int .i64 (end_ + (f.length : Int))))
        have HK7 := Lib.hid (HK6.out.setCell (p := ⟨L, 3, none⟩) (.inl (.inr rfl)) (.int .i64 (end_ + (f.length : Int))))
        clear hw l3 g3 HL5' HD5 HK6
        generalize w5.setCell ⟨L, 3, none⟩ (.int .i64 (end_ + (f.length : Int))) = w6 at HL6 HD6 HK7 ⊢
        have HC6 := Lib.hid (HBE.out w6 HK7.out)
        refine ap12_wp HL6 HD6 HC6 hc (by have := HBR.out; have := HA.out; omega) (by have := HA.out; omega) (Lib.hid fun c a N v w h => by cases N <;> exact h) (Lib.hid ?_)
        intro d59 d60 d61 d62 d63 d64 d65 d66 d67 d68 d69 rv' w7 HL7 HD7 HK8
        go_wp2
        go_ret
        rw [HAP.out]
        refine ⟨rfl, rv', ?_, HD7.out, (HK7.out.mono (fun k hk => .inl hk)).then_ HK8.out (fun k hk => ?_)⟩
        · show Lm w0 w7 L p S E half frm (end_ + (16 + b.length)) gen sv rv' snap (recs ++ [b]) down
          rw [show end_ + (16 + (b.length : Int)) = end_ + (f.length : Int) from by have := HFL.out; omega]
          exact HL7.out
        · rcases hk with rfl | hk
          · exact .inl (.inl (.inr rfl))
          · exact .inl (.inr hk)
end Go.Proofs.YtndelndgioojgaaDoor.Own
