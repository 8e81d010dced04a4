import Derived.Test.YtndelndgioojgaaDoorWd1
namespace Go.Proofs.YtndelndgioojgaaDoor.Own
open Go.RowKit Go.Proofs.YtndelndgioojgaaDoorW.PrintWords Go.Proofs.YtndelndgioojgaaDoorW.PrintLast Go.Proofs.YtndelndgioojgaaDoorW.PrintMore
set_option linter.unusedVariables false
set_option linter.unusedSimpArgs false
def FixPost (w : World) (e : Ending) (w' : World) : Prop := e = .returned (.bool true) ∧ Below w.heap.size w w'
set_option maxHeartbeats 4000000 in
set_option maxRecDepth 100000 in
theorem fixed_any {w0 w : World} (hb0 : Below w0.heap.size w0 w) (ht : Tbl w0) : Calls Tryd.prog 6 #[] w (FixPost w) := by
  have htw := tbl_below ht hb0
  have HNW : Hid (Calls Tryd.prog 7 #[.int .i64 200] w (NewPost w w 200)) := Lib.hid (new_any w w (Below.refl _ _) 200 (by omega))
  have HOP : Hid (∀ w2 p S E, Dm w w2 p S E 200 (List.replicate 200 0) (List.replicate 200 0) (.slice none 0 0) false (-1) 0 → Calls Tryd.prog 8 #[.pointer (some ⟨p, 0, none⟩)] w2 (OpenPost w w2 p S E 200 (0, some (Lg.first 200), Dk.first 200))) := Lib.hid (fun w2 p S E hd => by
    have := open_any (d := Dk.new 200) ⟨hd, by decide, by decide⟩ (by omega) (zeros_by _) htw
    rwa [opens_new 200 (by decide)] at this)
  clear hb0 ht htw
  go_enter Tryd.func6, Tryd.ntmps6
  go_upto_region 2 with (first | ((with_reducible refine HNW.out.mono ?_); rintro e w2 ⟨p, S, E, rfl, hd, hx1, hx2, hx3, hx4⟩; have HDM := Lib.hid hd; clear hd hx1 hx2 hx3 hx4) | ((with_reducible refine (HOP.out _ _ _ _ HDM.out).mono ?_); rintro e w3 ⟨lv, rfl, hd3, hk3, hx1, hg⟩; obtain ⟨L, sv, rv, rfl, hL, hl⟩ := hg _ rfl; have HD3 := Lib.hid hd3; have HL3 := Lib.hid hl; clear hd3 hk3 hx1 hg hL hl; dsimp only))
  have HL4 : Hid (Lm w w3 L p S E 100 100 16 1 sv rv [] [] false) := Lib.hid HL3.out
  have HGN := Lib.hid (gen_any (cell_eq (blk_cell HL4.out.hL 4) rfl))
  have HRC := Lib.hid (records_any HL4.out (fun r hr => by cases hr) (Nat.zero_le _))
  have HRM : Hid (∀ w4, Below w3.heap.size w3 w4 → Calls Tryd.prog 9 #[.pointer (some ⟨L, 0, none⟩)] w4 fun e w' => e = .returned (.int .i64 68) ∧ Below w4.heap.size w4 w') := Lib.hid (fun w4 hb => by
    have h := HL4.out.below hb
    exact room_any (cell_eq (blk_cell h.hL 1) rfl) (cell_eq (blk_cell h.hL 3) rfl) (by decide) (by decide) (by decide) (by decide))
  clear HNW HOP HDM
  go_wp2_with (first | ((with_reducible refine HGN.out.mono ?_); rintro e w4 ⟨rfl, rfl⟩) | ((with_reducible refine HRC.out.mono ?_); rintro e w4 ⟨v, rfl, hR, hB⟩; obtain ⟨vA, vc, rfl, hx, hy⟩ := Kd.R_reads hR; have HB4 := Lib.hid hB; clear hR hB hx hy) | ((with_reducible refine (HRM.out _ HB4.out).mono ?_); rintro e w5 ⟨rfl, hb5⟩; have HB5 := Lib.hid hb5; clear hb5))
  go_ret
  refine ⟨rfl, ?_⟩
  have h1 := HD3.out.m.hb
  exact (h1.trans (HB4.out.mono h1.size)).trans (HB5.out.mono (Nat.le_trans h1.size HB4.out.size))
end Go.Proofs.YtndelndgioojgaaDoor.Own
