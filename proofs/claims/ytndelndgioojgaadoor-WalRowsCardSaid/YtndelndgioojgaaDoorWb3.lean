import Derived.Test.YtndelndgioojgaaDoorWb2
namespace Go.Proofs.YtndelndgioojgaaDoor.Own
open Go.RowKit Go.Proofs.YtndelndgioojgaaDoorW.PrintWords Go.Proofs.YtndelndgioojgaaDoorW.PrintLast Go.Proofs.YtndelndgioojgaaDoorW.PrintMore
set_option linter.unusedVariables false
set_option linter.unusedSimpArgs false
/-- The generation that bytes tell. -/
def genOf (b : List Int) : Int := if b.length < 16 then 0 else get4 (b.drop 4)
theorem genOf_U {b : List Int} (h : By b) : U (genOf b) := by
  unfold genOf U
  split
  · omega
  · rename_i hl
    exact (split4 (by_drop h 4) (by rw [List.length_drop]; omega)).2
/-- The payload of the frame that bytes begin with; how long it is. -/
def payload (b : List Int) : List Int := (b.take (12 + (get4 b).toNat)).drop 12
/-- A half looked at. -/
def Lg.looks (g : Lg) (b : List Int) (at' : Int) : Lg :=
  if genOf b ≤ g.gen then g
  else if placeP g.half (genOf b) ≠ at' then g
  else if Good b (genOf b) 0 then { g with gen := genOf b, frm := at', end_ := get4 b + 16, snap := payload b } else g
def LooksPost (w0 w : World) (L p S E n : Nat) (rv : Value) (g : Lg) (d : Dk) (e : Ending) (w' : World) : Prop :=
  e = .returned (.tuple #[]) ∧ ∃ sv', LM w0 w' L p S E g sv' rv ∧ Dsk w0 w' p S E n d ∧ Kept w w' (fun k => k = L)
theorem looks_sets {w0 w w3 : World} {L p S E n : Nat} {d : Dk} {half frm end_ gen at' nn G : Int} {sv rv v : Value} {snap pl : List Int} {recs : List (List Int)} {down : Bool} (h : Lm w0 w3 L p S E half frm end_ gen sv rv snap recs down) (hR : Kd.R (Kd.int .u8) 5 w3 w0.heap.size (fun k => k ≠ S ∧ k ≠ E) v pl) (hk : Kept w w3 (fun k => k = L)) (hd : Dsk w0 w3 p S E n d) :
    Lm w0 ((((w3.setCell ⟨L, 4, none⟩ (.int .u32 G)).setCell ⟨L, 2, none⟩ (.int .i64 at')).setCell ⟨L, 3, none⟩ (.int .i64 nn)).setCell ⟨L, 5, none⟩ v) L p S E half at' nn G v rv pl recs down ∧
      Kept w ((((w3.setCell ⟨L, 4, none⟩ (.int .u32 G)).setCell ⟨L, 2, none⟩ (.int .i64 at')).setCell ⟨L, 3, none⟩ (.int .i64 nn)).setCell ⟨L, 5, none⟩ v) (fun k => k = L) ∧
      Dsk w0 ((((w3.setCell ⟨L, 4, none⟩ (.int .u32 G)).setCell ⟨L, 2, none⟩ (.int .i64 at')).setCell ⟨L, 3, none⟩ (.int .i64 nn)).setCell ⟨L, 5, none⟩ v) p S E n d := by
  have h4 := h.setGen G
  have r4 := R_setL (j := 4) (u := .int .u32 G) hR h.hL no56a
  have h2 := h4.setFrm at'
  have r2 := R_setL (j := 2) (u := .int .i64 at') r4 h4.hL no56a
  have h3 := h2.setEnd nn
  have r3 := R_setL (j := 3) (u := .int .i64 nn) r2 h2.hL no56a
  have k4 := hk.setCell (p := ⟨L, 4, none⟩) (.inl rfl) (.int .u32 G)
  have k2 := k4.setCell (p := ⟨L, 2, none⟩) (.inl rfl) (.int .i64 at')
  have k3 := k2.setCell (p := ⟨L, 3, none⟩) (.inl rfl) (.int .i64 nn)
  exact ⟨h3.setSnap r3, k3.setCell (p := ⟨L, 5, none⟩) (.inl rfl) v, (((hd.setL h.hL h.nL 4 (.int .u32 G)).setL h4.hL h.nL 2 (.int .i64 at')).setL h2.hL h.nL 3 (.int .i64 nn)).setL h3.hL h.nL 5 v⟩
set_option maxHeartbeats 4000000 in
set_option maxRecDepth 100000 in
theorem looks_any {w0 w : World} {L p S E n : Nat} {g : Lg} {sv rv : Value} {d : Dk} {A : Option Addr} {c : Nat} {b : List Int} {at' : Int}
    (hl : LM w0 w L p S E g sv rv) (hd : Dsk w0 w p S E n d) (hC : Kd.C (Kd.int .u8) w A b.length b) (hc : b.length ≤ c) (hby : By b) (hbl : b.length ≤ 4194304) (ht : Tbl w0) :
    Calls Tryd.prog 22 #[.pointer (some ⟨L, 0, none⟩), .slice A b.length c, .int .i64 at'] w (LooksPost w0 w L p S E n rv (g.looks b at') d) := by
  obtain ⟨half, frm, end_, gen, snap, recs, down⟩ := g
  have hGf : frame_Gen.f b = some (genOf b) := Gen_f hby
  have HGN := Lib.hid (frame_Gen.calls A c b (genOf b) w hC hc hGf)
  obtain ⟨G, hG⟩ : ∃ G, G = genOf b := ⟨_, rfl⟩
  rw [← hG] at HGN
  have hGU : U G := by rw [hG]; exact genOf_U hby
  have hG0 : 0 ≤ G := hGU.1
  have HGU := Lib.hid hGU
  have HGQ := Lib.hid hG
  have HL := Lib.hid hl
  have HD := Lib.hid hd
  have HC := Lib.hid hC
  have HT := Lib.hid ht
  have HBY := Lib.hid hby
  clear hGf hG hGU hl hd hC ht hby
  by_cases h1 : G ≤ gen
  · have HLK : Hid (Lg.looks ⟨half, frm, end_, gen, snap, recs, down⟩ b at' = ⟨half, frm, end_, gen, snap, recs, down⟩) := Lib.hid (by unfold Lg.looks; rw [if_pos (by rw [← HGQ.out]; exact h1)])
    go_enter Tryd.func22, Tryd.ntmps22
    go_upto_region 1 with ((with_reducible refine HGN.out.mono ?_); rintro e w2 ⟨rfl, hb2⟩; have HB2 := Lib.hid hb2.below; clear hb2)
    have HL2 := Lib.hid (Lm.below HL.out HB2.out)
    have l4 := cell_eq (blk_cell HL2.out.hL 4) rfl
    clear HGN
    go_wp2
    first | go_end0 | refine bodyPost_ret (results_none rfl _ _ _) rfl ?_
    exact ⟨rfl, sv, by rw [HLK.out]; exact HL2.out, HD.out.below HB2.out, Kept.of_below HB2.out _⟩
  · have h1' : gen < G := by omega
    by_cases h2 : placeP half G = at'
    · have hget : frame_Get.f 2 b G 0 = some (if Good b G 0 then (payload b, get4 b + 16, true) else ([], 0, false)) := Get_f (Nat.le_refl 2) HBY.out (by omega) G 0
      by_cases h3 : Good b G 0
      · have HLK : Hid (Lg.looks ⟨half, frm, end_, gen, snap, recs, down⟩ b at' = ⟨half, at', get4 b + 16, G, payload b, recs, down⟩) := Lib.hid (by unfold Lg.looks; rw [if_neg (by rw [← HGQ.out]; exact h1), if_neg (by rw [← HGQ.out, h2]; simp), if_pos (by rw [← HGQ.out]; exact h3), ← HGQ.out])
        rw [if_pos h3] at hget
        obtain ⟨pl, hpl⟩ : ∃ x, x = payload b := ⟨_, rfl⟩
        obtain ⟨nn, hnn⟩ : ∃ x, x = get4 b + 16 := ⟨_, rfl⟩
        rw [← hpl, ← hnn] at HLK hget
        clear hpl hnn
        have HGET : Hid (∀ W, Below w.heap.size w W → Calls Tryd.prog 39 #[.slice A b.length c, .int .u32 G, .int .u32 0] W fun e w' => ∃ v0_ : Value, e = .returned (.tuple #[v0_, .int .i64 nn, .bool true]) ∧ Kd.R (Kd.int .u8) 5 w' W.heap.size (fun _ => True) v0_ (pl) ∧ Below W.heap.size W w') := Lib.hid fun W hW => frame_Get.calls 2 A c b G 0 (pl) nn true W (Kd.C_below HC.out hW) hc ⟨tbl_below HT.out (HD.out.hb.trans (hW.mono HD.out.hb.size))⟩ hget
        have H2 := Lib.hid h2
        clear h3 hget h2
        go_enter Tryd.func22, Tryd.ntmps22
        go_upto_region 1 with ((with_reducible refine HGN.out.mono ?_); rintro e w2 ⟨rfl, hb2⟩; have HB2 := Lib.hid hb2.below; clear hb2)
        have HL2 := Lib.hid (Lm.below HL.out HB2.out)
        have HD2 := Lib.hid (HD.out.below HB2.out)
        have l4 := cell_eq (blk_cell HL2.out.hL 4) rfl
        have l1 := cell_eq (blk_cell HL2.out.hL 1) rfl
        have HPC : Hid (Calls Tryd.prog 38 #[.pointer (some ⟨L, 0, none⟩), .int .u32 G] w2 fun e w' => e = .returned (.int .i64 at') ∧ w2 = w') := Lib.hid (by have := place_any (w := w2) (L := L) G hG0 l1; rw [H2.out] at this; exact this)
        have HG2 := Lib.hid (HGET.out w2 HB2.out)
        clear HGN
        go_wp2_with (first | ((with_reducible refine HPC.out.mono ?_); rintro e w' ⟨rfl, rfl⟩) | ((with_reducible refine HG2.out.mono ?_); rintro e w3 ⟨v, rfl, hR, hb⟩; obtain ⟨Av, cv, rfl, _, _⟩ := Kd.R_reads hR; have HR := Lib.hid hR; have HB3 := Lib.hid hb; clear hR hb; have HL3 := Lib.hid (HL2.out.below HB3.out); have q2 := cell_eq (blk_cell HL3.out.hL 2) rfl; have q3 := cell_eq (blk_cell HL3.out.hL 3) rfl; have q4 := cell_eq (blk_cell HL3.out.hL 4) rfl; have q5 := cell_eq (blk_cell HL3.out.hL 5) rfl; have y2 := blk_frozen HL3.out.hL 2; have y3 := blk_frozen HL3.out.hL 3; have y4 := blk_frozen HL3.out.hL 4; have y5 := blk_frozen HL3.out.hL 5))
        first | go_end0 | refine bodyPost_ret (results_none rfl _ _ _) rfl ?_
        have HRS := R_since HD2.out HR.out
        have hk3 : Kept w w3 (fun k => k = L) := Kept.of_below (HB2.out.trans (HB3.out.mono HB2.out.size)) _
        have hfin := looks_sets (at' := at') (nn := nn) (G := G) HL3.out HRS hk3 (HD2.out.below HB3.out)
        exact ⟨rfl, .slice Av pl.length cv, by rw [HLK.out]; exact hfin.1, hfin.2.2, hfin.2.1⟩
      · have HLK : Hid (Lg.looks ⟨half, frm, end_, gen, snap, recs, down⟩ b at' = ⟨half, frm, end_, gen, snap, recs, down⟩) := Lib.hid (by unfold Lg.looks; rw [if_neg (by rw [← HGQ.out]; exact h1), if_neg (by rw [← HGQ.out, h2]; simp), if_neg (by rw [← HGQ.out]; exact h3)])
        rw [if_neg h3] at hget
        have HGET : Hid (∀ W, Below w.heap.size w W → Calls Tryd.prog 39 #[.slice A b.length c, .int .u32 G, .int .u32 0] W fun e w' => ∃ v0_ : Value, e = .returned (.tuple #[v0_, .int .i64 0, .bool false]) ∧ Kd.R (Kd.int .u8) 5 w' W.heap.size (fun _ => True) v0_ [] ∧ Below W.heap.size W w') := Lib.hid fun W hW => frame_Get.calls 2 A c b G 0 [] 0 false W (Kd.C_below HC.out hW) hc ⟨tbl_below HT.out (HD.out.hb.trans (hW.mono HD.out.hb.size))⟩ hget
        have H2 := Lib.hid h2
        clear h3 hget h2
        go_enter Tryd.func22, Tryd.ntmps22
        go_upto_region 1 with ((with_reducible refine HGN.out.mono ?_); rintro e w2 ⟨rfl, hb2⟩; have HB2 := Lib.hid hb2.below; clear hb2)
        have HL2 := Lib.hid (Lm.below HL.out HB2.out)
        have l4 := cell_eq (blk_cell HL2.out.hL 4) rfl
        have l1 := cell_eq (blk_cell HL2.out.hL 1) rfl
        have HPC : Hid (Calls Tryd.prog 38 #[.pointer (some ⟨L, 0, none⟩), .int .u32 G] w2 fun e w' => e = .returned (.int .i64 at') ∧ w2 = w') := Lib.hid (by have := place_any (w := w2) (L := L) G hG0 l1; rw [H2.out] at this; exact this)
        have HG2 := Lib.hid (HGET.out w2 HB2.out)
        clear HGN
        go_wp2_with (first | ((with_reducible refine HPC.out.mono ?_); rintro e w' ⟨rfl, rfl⟩) | ((with_reducible refine HG2.out.mono ?_); rintro e w3 ⟨v, rfl, hR, hb⟩; obtain ⟨Av, cv, rfl, _, _⟩ := Kd.R_reads hR; have HB3 := Lib.hid hb; clear hR hb))
        first | go_end0 | refine bodyPost_ret (results_none rfl _ _ _) rfl ?_
        exact ⟨rfl, sv, by rw [HLK.out]; exact HL2.out.below HB3.out, (HD.out.below HB2.out).below HB3.out, Kept.of_below (HB2.out.trans (HB3.out.mono HB2.out.size)) _⟩
    · have HLK : Hid (Lg.looks ⟨half, frm, end_, gen, snap, recs, down⟩ b at' = ⟨half, frm, end_, gen, snap, recs, down⟩) := Lib.hid (by unfold Lg.looks; rw [if_neg (by rw [← HGQ.out]; exact h1), if_pos (by rw [← HGQ.out]; exact h2)])
      go_enter Tryd.func22, Tryd.ntmps22
      go_upto_region 1 with ((with_reducible refine HGN.out.mono ?_); rintro e w2 ⟨rfl, hb2⟩; have HB2 := Lib.hid hb2.below; clear hb2)
      have HL2 := Lib.hid (Lm.below HL.out HB2.out)
      have l4 := cell_eq (blk_cell HL2.out.hL 4) rfl
      have l1 := cell_eq (blk_cell HL2.out.hL 1) rfl
      have HPC := Lib.hid (place_any (w := w2) (L := L) G hG0 l1)
      have hq : (placeP half G != at') = true := bne_iff_ne.2 h2
      clear HGN
      go_wp2_with (first | ((with_reducible refine HPC.out.mono ?_); rintro e w' ⟨rfl, rfl⟩))
      first | go_end0 | refine bodyPost_ret (results_none rfl _ _ _) rfl ?_
      exact ⟨rfl, sv, by rw [HLK.out]; exact HL2.out, HD.out.below HB2.out, Kept.of_below HB2.out _⟩
end Go.Proofs.YtndelndgioojgaaDoor.Own
