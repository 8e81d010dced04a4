import Derived.Test.YtndelndgioojgaaDoorWc3
namespace Go.Proofs.YtndelndgioojgaaDoor.Own
open Go.RowKit Go.Proofs.YtndelndgioojgaaDoorW.PrintWords Go.Proofs.YtndelndgioojgaaDoorW.PrintLast Go.Proofs.YtndelndgioojgaaDoorW.PrintMore
set_option linter.unusedVariables false
set_option linter.unusedSimpArgs false
abbrev zs (n : Nat) : List Int := List.replicate n 0
theorem splice_mid {a x c b : List Int} (h : b.length = x.length) : splice (a ++ (x ++ c)) a.length b = a ++ (b ++ c) := by
  unfold splice
  rw [List.take_left, h, ← List.drop_drop, List.drop_left, List.drop_left]
/-- A disk as New makes it. -/
def Dk.new (n : Nat) : Dk := ⟨zs n, false, -1, 0⟩
/-- A disk whose fuse doesn't burn. -/
structure Free (d : Dk) : Prop where
  off : d.off = false
  fuse : d.fuse = -1
theorem put_free {d : Dk} (h : Free d) (a : Nat) (b : List Int) : d.put a b = (⟨splice d.bs a b, false, -1, d.keep⟩, true) := by
  unfold Dk.put
  rw [if_neg (by rw [h.off]; simp), if_neg (by rw [h.fuse]; decide), h.fuse]
  rfl
theorem get4_zs {n : Nat} (h : 4 ≤ n) : get4 (zs n) = 0 := by
  obtain ⟨m, rfl⟩ : ∃ m, n = m + 4 := ⟨n - 4, by omega⟩
  simp [get4, rd, rdOf, zs, List.replicate_succ]
theorem genOf_zs (n : Nat) : genOf (zs n) = 0 := by
  unfold genOf
  split
  · rfl
  · rename_i h
    rw [List.length_replicate] at h
    rw [zs, List.drop_replicate]
    exact get4_zs (by omega)
/-- The disk behind a log's first opening. -/
def Dk.first (n : Nat) : Dk := ⟨zs (n / 2) ++ (fr 1 0 [] ++ zs (n - n / 2 - 16)), false, -1, 0⟩
def Lg.first (n : Nat) : Lg := ⟨((n / 2 : Nat) : Int), ((n / 2 : Nat) : Int), 16, 1, [], [], false⟩
theorem looks_zs (g : Lg) (n : Nat) (at' : Int) (h : 0 ≤ g.gen) : g.looks (zs n) at' = g := by
  unfold Lg.looks
  rw [if_pos (by rw [genOf_zs]; exact h)]
theorem seen_zs (h : Nat) : Lg.seen h (zs (2 * h)) = Lg.new h := by
  unfold Lg.seen
  rw [zs, List.take_replicate, List.drop_replicate, looks_zs (Lg.new h) _ _ (Int.le_refl 0), looks_zs (Lg.new h) _ _ (Int.le_refl 0)]
theorem zs_split {a b n : Nat} (h : n = a + b) : zs n = zs a ++ zs b := by rw [h]; exact List.replicate_append_replicate.symm
theorem opens_new (n : Nat) (h : 64 ≤ n / 2) : opens n (Dk.new n) = (0, some (Lg.first n), Dk.first n) := by
  unfold opens
  dsimp only
  rw [if_neg (by simp [Dk.new]), if_neg (by omega), show List.take (2 * (n / 2)) (Dk.new n).bs = zs (2 * (n / 2)) by simp [Dk.new, zs, List.take_replicate]; omega, seen_zs]
  have hp : placeP ((n / 2 : Nat) : Int) 1 = ((n / 2 : Nat) : Int) := by unfold placeP; rw [if_neg (by decide)]
  have hb : (Lg.new (n / 2)).begins (Dk.new n) 1 [] = (0, Lg.first n, Dk.first n) := by
    unfold Lg.begins
    have e1 : (Dk.new n).put (placeP (Lg.new (n / 2)).half 1).toNat (List.replicate (Lg.new (n / 2)).half.toNat 0) = (Dk.new n, true) := by
      show (Dk.new n).put (placeP ((n / 2 : Nat) : Int) 1).toNat (List.replicate (((n / 2 : Nat) : Int)).toNat 0) = _
      rw [hp, Int.toNat_natCast, put_free ⟨rfl, rfl⟩]
      have : splice (Dk.new n).bs (n / 2) (zs (n / 2)) = zs n := by
        have h1 : (Dk.new n).bs = zs (n / 2) ++ (zs (n / 2) ++ zs (n - n / 2 - n / 2)) := by
          show zs n = _
          simp only [zs, List.replicate_append_replicate]
          congr 1
          omega
        have h2 := splice_mid (a := zs (n / 2)) (x := zs (n / 2)) (c := zs (n - n / 2 - n / 2)) (b := zs (n / 2)) rfl
        rw [List.length_replicate] at h2
        rw [h1, h2, ← h1]
        rfl
      rw [show List.replicate (n / 2) (0 : Int) = zs (n / 2) from rfl, this]
      rfl
    have e2 : (Dk.new n).put (placeP (Lg.new (n / 2)).half 1).toNat (fr 1 0 []) = (Dk.first n, true) := by
      show (Dk.new n).put (placeP ((n / 2 : Nat) : Int) 1).toNat (fr 1 0 []) = _
      rw [hp, Int.toNat_natCast, put_free ⟨rfl, rfl⟩]
      have h1 : (Dk.new n).bs = zs (n / 2) ++ (zs 16 ++ zs (n - n / 2 - 16)) := by
        show zs n = _
        simp only [zs, List.replicate_append_replicate]
        congr 1
        omega
      have h2 := splice_mid (a := zs (n / 2)) (x := zs 16) (c := zs (n - n / 2 - 16)) (b := fr 1 0 []) (by rw [fr_len]; rfl)
      rw [List.length_replicate] at h2
      rw [h1, h2]
      rfl
    rw [e1]
    rw [e2]
    simp only [if_true]
    rw [show (Lg.new (n / 2)).half = ((n / 2 : Nat) : Int) from rfl, hp]
    rfl
  rw [if_pos (show (Lg.new (n / 2)).gen = 0 from rfl), hb]
  rfl
theorem first_free (n : Nat) : Free (Dk.first n) := ⟨rfl, rfl⟩
theorem first_by (n : Nat) : By (Dk.first n).bs := by_app.2 ⟨zeros_by _, by_app.2 ⟨fr_by (fun x hx => by cases hx), zeros_by _⟩⟩
end Go.Proofs.YtndelndgioojgaaDoor.Own
namespace Go.Proofs.YtndelndgioojgaaDoor.Own
open Go.RowKit Go.Proofs.YtndelndgioojgaaDoorW.PrintWords Go.Proofs.YtndelndgioojgaaDoorW.PrintLast Go.Proofs.YtndelndgioojgaaDoorW.PrintMore
set_option linter.unusedVariables false
set_option linter.unusedSimpArgs false
def FixPost (w : World) (e : Ending) (w' : World) : Prop := e = .returned (.bool true) ∧ Below w.heap.size w w'
set_option maxHeartbeats 4000000 in
set_option maxRecDepth 100000 in
theorem fixed_any {w0 w : World} (hb0 : Below w0.heap.size w0 w) (ht : Tbl w0) : Calls Tryd.prog 6 #[] w (FixPost w) := by
  have htw := tbl_below ht hb0
  have HNW : Hid (Calls Tryd.prog 7 #[.int .i64 200] w (NewPost w w 200)) := Lib.hid (new_any w w (Below.refl _ _) 200 (by omega))
  have HOP : Hid (∀ w2 p S E, Dm w w2 p S E 200 (List.replicate 200 0) (List.replicate 200 0) (.slice none 0 0) false (-1) 0 → Calls Tryd.prog 8 #[.pointer (some ⟨p, 0, none⟩)] w2 (OpenPost w w2 p S E 200 (0, some (Lg.first 200), Dk.first 200))) := Lib.hid (fun w2 p S E hd => by
    have := open_any (d := Dk.new 200) ⟨hd, by decide, by decide⟩ (by omega) (zeros_by _) htw
    rwa [opens_new 200 (by decide)] at this)
  clear hb0 ht htw
  go_enter Tryd.func6, Tryd.ntmps6
  go_upto_region 2 with (first | ((with_reducible refine HNW.out.mono ?_); rintro e w2 ⟨p, S, E, rfl, hd, hx1, hx2, hx3, hx4⟩; have HDM := Lib.hid hd; clear hd hx1 hx2 hx3 hx4) | ((with_reducible refine (HOP.out _ _ _ _ HDM.out).mono ?_); rintro e w3 ⟨lv, rfl, hd3, hk3, hx1, hg⟩; obtain ⟨L, sv, rv, rfl, hL, hl⟩ := hg _ rfl; have HD3 := Lib.hid hd3; have HL3 := Lib.hid hl; clear hd3 hk3 hx1 hg hL hl; dsimp only))
  have HL4 : Hid (Lm w w3 L p S E 100 100 16 1 sv rv [] [] false) := Lib.hid HL3.out
  have HGN := Lib.hid (gen_any (cell_eq (blk_cell HL4.out.hL 4) rfl))
  have HRC := Lib.hid (records_any HL4.out (fun r hr => by cases hr) (Nat.zero_le _))
  have HRM : Hid (∀ w4, Below w3.heap.size w3 w4 → Calls Tryd.prog 9 #[.pointer (some ⟨L, 0, none⟩)] w4 fun e w' => e = .returned (.int .i64 68) ∧ Below w4.heap.size w4 w') := Lib.hid (fun w4 hb => by
    have h := HL4.out.below hb
    exact room_any (cell_eq (blk_cell h.hL 1) rfl) (cell_eq (blk_cell h.hL 3) rfl) (by decide) (by decide) (by decide) (by decide))
  clear HNW HOP HDM
  go_wp2_with (first | ((with_reducible refine HGN.out.mono ?_); rintro e w4 ⟨rfl, rfl⟩) | ((with_reducible refine HRC.out.mono ?_); rintro e w4 ⟨v, rfl, hR, hB⟩; obtain ⟨vA, vc, rfl, hx, hy⟩ := Kd.R_reads hR; have HB4 := Lib.hid hB; clear hR hB hx hy) | ((with_reducible refine (HRM.out _ HB4.out).mono ?_); rintro e w5 ⟨rfl, hb5⟩; have HB5 := Lib.hid hb5; clear hb5))
  go_ret
  refine ⟨rfl, ?_⟩
  have h1 := HD3.out.m.hb
  exact (h1.trans (HB4.out.mono h1.size)).trans (HB5.out.mono (Nat.le_trans h1.size HB4.out.size))
end Go.Proofs.YtndelndgioojgaaDoor.Own
