import Derived.Test.YtndelndgioojgaaDoorWd2
namespace Go.Proofs.YtndelndgioojgaaDoor.Own
open Go.RowKit Go.Proofs.YtndelndgioojgaaDoorW.PrintWords Go.Proofs.YtndelndgioojgaaDoorW.PrintLast Go.Proofs.YtndelndgioojgaaDoorW.PrintMore
set_option linter.unusedVariables false
set_option linter.unusedSimpArgs false
/-- Zeros appended: what Append of make([]byte, m) does. -/
theorem append_zs {w0 w : World} {L p S E n m : Nat} {g : Lg} {sv rv : Value} {d : Dk} (hl : LM w0 w L p S E g sv rv) (hd : Dsk w0 w p S E n d) (hft : Fit n g) (hm : m ≤ 4194304) (ht : Tbl w0) :
    Calls Tryd.prog 10 #[.pointer (some ⟨L, 0, none⟩), .slice (some ⟨w.heap.size, 0, none⟩) m m] (w.alloc (.cells (madeCells #[Value.int .u8 0] m) 5)) (AppendPost w0 (w.alloc (.cells (madeCells #[Value.int .u8 0] m) 5)) L p S E n sv rv (g.append d (zs m))) := by
  have hz := made_R w m hm
  have h := append_any (b := zs m) (A := some ⟨w.heap.size, 0, none⟩) (c := m) (Lm.below hl below_new_ : Lm w0 (w.alloc (.cells (madeCells #[Value.int .u8 0] m) 5)) L p S E g.half g.frm g.end_ g.gen sv rv g.snap g.recs g.down) (hd.below below_new_) hft (by rw [List.length_replicate]; exact own_C2 (heap_lt hl.hL) hd hz) (by rw [List.length_replicate]; exact Nat.le_refl _) (zeros_by _) ht
  rw [List.length_replicate] at h
  exact h
theorem compact_zs {w0 w : World} {L p S E n m : Nat} {g : Lg} {sv rv : Value} {d : Dk} (hl : LM w0 w L p S E g sv rv) (hd : Dsk w0 w p S E n d) (hft : Fit n g) (h2 : 2 * g.half ≤ (n : Int)) (hh : 1 ≤ g.half) (hm : m ≤ 4194304) (ht : Tbl w0) :
    Calls Tryd.prog 11 #[.pointer (some ⟨L, 0, none⟩), .slice (some ⟨w.heap.size, 0, none⟩) m m] (w.alloc (.cells (madeCells #[Value.int .u8 0] m) 5)) (BeginsPost w0 (w.alloc (.cells (madeCells #[Value.int .u8 0] m) 5)) L p S E n (g.compact d (zs m))) := by
  have hz := made_R w m hm
  have h := compact_any (b := zs m) (A := some ⟨w.heap.size, 0, none⟩) (c := m) (Lm.below hl below_new_ : Lm w0 (w.alloc (.cells (madeCells #[Value.int .u8 0] m) 5)) L p S E g.half g.frm g.end_ g.gen sv rv g.snap g.recs g.down) (hd.below below_new_) hft h2 hh (by rw [List.length_replicate]; exact own_C2 (heap_lt hl.hL) hd hz) (by rw [List.length_replicate]; exact Nat.le_refl _) (zeros_by _) ht
  rw [List.length_replicate] at h
  exact h
theorem run_zs (k : IntKind) (m : Nat) (hm : m ≤ 4194304) (w : World) : (Instr.makeSlice 23 (.int k (m : Int)) (.int k (m : Int))).run Tryd.prog w = .ok (.slice (some ⟨w.heap.size, 0, none⟩) m m) (w.alloc (.cells (madeCells #[Value.int .u8 0] m) 5)) :=
  run_make_row' (P := Tryd.prog) 23 5 (.int .u8 0) 1 Tryd.underlying23 info5_ rfl k k m (by omega) (by omega) w
/-- A log on a disk that doesn't fall, in its first generation; what is left. -/
structure Roomy (h : Nat) (g : Lg) (left : Int) : Prop where
  half : g.half = h
  frm : g.frm = h
  gen : g.gen = 1
  down : g.down = false
  left : left = g.half - g.end_ - 16
  e0 : 16 ≤ g.end_
  e1 : g.end_ ≤ g.half
  r1 : (g.recs.length : Int) ≤ g.end_
theorem Roomy.fit {h n : Nat} {g : Lg} {left : Int} (hg : Roomy h g left) (h2 : 2 * h ≤ n) (h3 : h ≤ 1000000) : Fit n g := by
  obtain ⟨a1, a2, a3, a4, a5, a6, a7, a8⟩ := hg
  exact ⟨by omega, by omega, by omega, by omega, by omega, by omega, by omega, by omega, a8⟩
theorem Roomy.room {h : Nat} {g : Lg} {left : Int} (hg : Roomy h g left) : roomP g.half g.end_ = if left < -1 then -1 else left := by
  unfold roomP
  rw [hg.left]
theorem Roomy.full {h : Nat} {g : Lg} {left : Int} {d : Dk} (hg : Roomy h g left) (hd : Free d) {b : List Int} (hb : left < (b.length : Int)) : g.append d b = (7, g, d) := by
  unfold Lg.append
  rw [if_neg (by rw [hg.down, hd.off]; simp), if_pos]
  rw [hg.room]
  split <;> omega
theorem Roomy.fits {h : Nat} {g : Lg} {left : Int} {d : Dk} (hg : Roomy h g left) (hd : Free d) {b : List Int} (hb : (b.length : Int) ≤ left) : ∃ g' d', g.append d b = (0, g', d') ∧ Roomy h g' (left - (16 + b.length)) ∧ Free d' := by
  unfold Lg.append
  rw [if_neg (by rw [hg.down, hd.off]; simp), if_neg (by rw [hg.room]; split <;> omega), put_free hd]
  obtain ⟨a1, a2, a3, a4, a5, a6, a7, a8⟩ := hg
  refine ⟨_, _, rfl, ⟨a1, a2, a3, a4, ?_, ?_, ?_, ?_⟩, ⟨rfl, rfl⟩⟩
  · simp only; omega
  · simp only; omega
  · simp only; omega
  · simp only [List.length_append, List.length_singleton]; omega
theorem Roomy.first (n : Nat) (h : 64 ≤ n / 2) : Roomy (n / 2) (Lg.first n) (((n / 2 : Nat) : Int) - 32) :=
  ⟨rfl, rfl, rfl, rfl, by show ((n / 2 : Nat) : Int) - 32 = ((n / 2 : Nat) : Int) - 16 - 16; omega, Int.le_refl 16, by show (16 : Int) ≤ ((n / 2 : Nat) : Int); omega, by show ((0 : Nat) : Int) ≤ 16; decide⟩
theorem Roomy.over {h : Nat} {g : Lg} {left : Int} {d : Dk} (hg : Roomy h g left) (hd : Free d) {b : List Int} (hb : (h : Int) - 16 < (b.length : Int)) : g.compact d b = (7, g, d) := by
  unfold Lg.compact
  rw [if_neg (by rw [hg.down, hd.off]; simp), if_pos (by rw [hg.half]; exact hb)]
theorem Roomy.turns {h : Nat} {g : Lg} {left : Int} {d : Dk} (hg : Roomy h g left) (hd : Free d) {b : List Int} (hb : (b.length : Int) ≤ (h : Int) - 16) : ∃ d', g.compact d b = (0, ⟨(h : Int), 0, 16 + b.length, 2, b, [], false⟩, d') ∧ Free d' := by
  unfold Lg.compact
  rw [if_neg (by rw [hg.down, hd.off]; simp), if_neg (by rw [hg.half]; omega), if_neg (by rw [hg.gen]; decide)]
  unfold Lg.begins
  rw [put_free hd]
  simp only [if_true]
  rw [put_free ⟨rfl, rfl⟩]
  simp only [if_true]
  rw [hg.gen, hg.half, hg.down]
  exact ⟨_, rfl, ⟨rfl, rfl⟩⟩
theorem opens_small {n : Nat} (h : n / 2 < 64) : opens n (Dk.new n) = (3, none, Dk.new n) := by
  unfold opens
  rw [if_neg (by simp [Dk.new]), if_pos h]
theorem room_last {w0 w : World} {L p S E h m : Nat} {sv rv : Value} {snap : List Int} {recs : List (List Int)} {frm gen : Int} {down : Bool} (hl : Lm w0 w L p S E (h : Int) frm (16 + ((zs m).length : Int)) gen sv rv snap recs down) (hm : (h : Int) - 16 = (m : Int)) (hh : h ≤ 1000) :
    Calls Tryd.prog 9 #[.pointer (some ⟨L, 0, none⟩)] w fun e w' => e = .returned (.int .i64 (-1)) ∧ Below w.heap.size w w' := by
  have hz : ((zs m).length : Int) = (m : Int) := by rw [List.length_replicate]
  have r := room_any (cell_eq (blk_cell hl.hL 1) rfl) (cell_eq (blk_cell hl.hL 3) rfl) (by omega) (by omega) (by omega) (by omega)
  rw [show roomP (h : Int) (16 + ((zs m).length : Int)) = -1 from if_pos (by omega)] at r
  exact r
theorem rd_mem (l : List Int) (j : Nat) (h : j < l.length) : rd l (j : Int) ∈ l := by
  unfold rd
  rw [Int.toNat_natCast, List.getD_eq_getElem?_getD, List.getElem?_eq_getElem h]
  exact List.getElem_mem _
theorem run_zs' (i : Int) (m : Nat) (hi : i = (m : Int)) (hm : m ≤ 4194304) (w : World) : (Instr.makeSlice 23 (.int .i64 i) (.int .i64 i)).run Tryd.prog w = .ok (.slice (some ⟨w.heap.size, 0, none⟩) m m) (w.alloc (.cells (madeCells #[Value.int .u8 0] m) 5)) := by
  rw [hi]
  exact run_zs .i64 m hm w
def RoomRel (w : World) (L p S E n h len : Nat) (i v : Value) (wr : World) : Prop :=
  ∃ (j : Nat) (left : Int) (g : Lg) (d : Dk) (sv rv : Value), j ≤ len ∧ i = .int .i64 (j : Int) ∧ v = .int .i64 left ∧ Hid (LM w wr L p S E g sv rv) ∧ Hid (Dsk w wr p S E n d) ∧ Hid (Free d) ∧ Hid (Roomy h g left)
set_option maxHeartbeats 4000000 in
set_option maxRecDepth 100000 in
theorem walRoom_any {w : World} {size : Int} (h0 : 0 ≤ size) (h1 : size ≤ 65535) {ls : List Int} {A : Option Addr} {c : Nat} (hC : Kd.C (Kd.int .u8) w A ls.length ls) (hc : ls.length ≤ c) (hby : By ls) (ht : Tbl w) :
    Calls Tryd.prog 3 #[.int .u16 size, .slice A ls.length c] w (FixPost w) := by
  obtain ⟨N, hN⟩ : ∃ N : Nat, size % 2001 = (N : Int) := ⟨(size % 2001).toNat, by omega⟩
  have hNl : N ≤ 2000 := by omega
  have HN := Lib.hid hN
  have HC := Lib.hid hC
  have HBY := Lib.hid hby
  have HT := Lib.hid ht
  clear hC hby ht hN
  by_cases h100 : (100 : Int) < (ls.length : Int)
  · have HFX := Lib.hid (fixed_any (Below.refl _ w) HT.out)
    go_enter Tryd.func3, Tryd.ntmps3
    go_wp2_with (first | ((with_reducible refine HFX.out.mono ?_); rintro e w2 ⟨rfl, hb⟩; have HB := Lib.hid hb; clear hb))
    go_ret
    exact ⟨rfl, HB.out⟩
  · have HNW : Hid (Calls Tryd.prog 7 #[.int .i64 (N : Int)] w (NewPost w w N)) := Lib.hid (new_any w w (Below.refl _ _) N (by omega))
    go_enter Tryd.func3, Tryd.ntmps3
    go_upto_region 4 with (fail)
    rw [HN.out]
    go_upto_region 5 with (first | ((with_reducible refine HNW.out.mono ?_); rintro e w2 ⟨p, S, E, rfl, hd, hx1, hx2, hx3, hx4⟩; have HDM : Hid (Dsk w w2 p S E N (Dk.new N)) := Lib.hid ⟨hd, Int.le_refl (-1), (by show (-1 : Int) ≤ 9223372036854775807; decide)⟩; clear hd hx1 hx2 hx3 hx4))
    have HOP := Lib.hid (open_any HDM.out (by omega) (zeros_by _) HT.out)
    clear HNW
    by_cases h64 : N / 2 < 64
    · rw [opens_small h64] at HOP
      have h64' : (N : Int) / 2 < 64 := by omega
      have HFX : Hid (∀ w3, Below w.heap.size w w3 → Calls Tryd.prog 6 #[] w3 (FixPost w3)) := Lib.hid (fun w3 hb => fixed_any hb HT.out)
      go_wp2_with (first | ((with_reducible refine HOP.out.mono ?_); rintro e w3 ⟨lv, rfl, hd3, hk3, hx1, hg⟩; obtain rfl := hx1 rfl; have HD3 := Lib.hid hd3; clear hd3 hk3 hx1 hg; dsimp only) | ((with_reducible refine (HFX.out _ HD3.out.m.hb).mono ?_); rintro e w4 ⟨rfl, hb⟩; have HB := Lib.hid hb; clear hb))
      go_ret
      exact ⟨rfl, HD3.out.m.hb.trans (HB.out.mono HD3.out.m.hb.size)⟩
    · have h64' : ¬ (N : Int) / 2 < 64 := by omega
      rw [opens_new N (by omega)] at HOP
      obtain ⟨h, hh⟩ : ∃ h, h = N / 2 := ⟨_, rfl⟩
      have hh2 : (N : Int) / 2 = (h : Int) := by omega
      have HH : Hid (h = N / 2 ∧ 64 ≤ h ∧ 2 * h ≤ N) := Lib.hid (by omega)
      have hwl : wrap64 ((h : Int) - 32) = (h : Int) - 32 := IntWalk.wrap64_in _ (by omega)
      clear hh
      go_upto_region 10 with (first | ((with_reducible refine HOP.out.mono ?_); rintro e w3 ⟨lv, rfl, hd3, hk3, hx1, hg⟩; obtain ⟨L, sv, rv, rfl, hL, hl⟩ := hg _ rfl; have HD3 := Lib.hid hd3; have HL3 := Lib.hid hl; clear hd3 hk3 hx1 hg hL hl; dsimp only))
      clear hwl
      have HFS : Hid (Roomy h (Lg.first N) ((h : Int) - 32)) := Lib.hid (by
        have h1 := HH.out.1
        subst h1
        exact Roomy.first N HH.out.2.1)
      go_loopw [44, 9] (fun i' v wr => RoomRel w L p S E N h ls.length i' v wr) (fun i' _ _ => ls.length - (intOf i').toNat)
      case atStart => exact ⟨0, (h : Int) - 32, Lg.first N, Dk.first N, sv, rv, Nat.zero_le _, rfl, rfl, HL3, HD3, Lib.hid (first_free N), HFS⟩
      case round =>
      clear HL3 HD3 HOP HFS HDM
      obtain ⟨j, left, g, d, sv1, rv1, hj, rfl, rfl, HL, HD, HF, HR⟩ := hrel
      have HRM : Hid (Calls Tryd.prog 9 #[.pointer (some ⟨L, 0, none⟩)] wr fun e w' => e = .returned (.int .i64 (if left < -1 then -1 else left)) ∧ Below wr.heap.size wr w') := Lib.hid (by
        have a := HR.out
        have e0 := a.e0
        have e1 := a.e1
        have e2 := a.half
        have e3 := HH.out
        have r := room_any (cell_eq (blk_cell HL.out.hL 1) rfl) (cell_eq (blk_cell HL.out.hL 3) rfl) (by omega) (by omega) (by omega) (by omega)
        rw [a.room] at r
        exact r)
      have HLF : Hid (-16 ≤ left ∧ left ≤ (h : Int) - 32 ∧ h ≤ 1000) := Lib.hid (by
        have a := HR.out
        have e0 := a.e0
        have e1 := a.e1
        have e2 := a.half
        have e3 := a.left
        have e4 := HH.out
        omega)
      have HFT : Hid (Fit N g) := Lib.hid (HR.out.fit HH.out.2.2 (by have := HH.out; omega))
      have hlf := HLF.out
      by_cases hlt : j < ls.length
      · obtain ⟨ad', rfl, hc0⟩ := Kd.at_int (Kd.C_below HC.out HD.out.m.hb) (j : Int) (by omega) (by omega)
        have hjn : ((j : Int)).toNat = j := Int.toNat_natCast j
        rw [hjn] at hc0
        clear hjn
        obtain ⟨k, hk, hk2⟩ : ∃ k : Nat, rd ls (j : Int) = (k : Int) ∧ k ≤ 255 := by
          have := HBY.out (rd ls (j : Int)) (rd_mem ls j hlt)
          exact ⟨(rd ls (j : Int)).toNat, by omega, by omega⟩
        rw [hk] at hc0
        clear hk
        by_cases hneg : left < -1
        · rw [if_pos hneg] at HRM
          have hz := fun w => run_zs .u8 k (by omega) w
          have HAP : Hid (g.append d (zs k) = (7, g, d)) := Lib.hid (HR.out.full HF.out (by rw [List.length_replicate]; omega))
          have hlk : (k : Int) > left := by omega
          go_wp2_with (first | ((with_reducible refine HRM.out.mono ?_); rintro e w4 ⟨rfl, hb4⟩; have HB4 := Lib.hid hb4; clear hb4; have HL4 : Hid (LM w w4 L p S E g sv1 rv1) := Lib.hid (Lm.below HL.out HB4.out); have HD4 := Lib.hid (HD.out.below HB4.out)) | ((with_reducible refine (append_zs (m := k) (g := g) (d := d) HL4.out HD4.out HFT.out (by omega) HT.out).mono ?_); rw [HAP.out]; rintro e w5 ⟨rfl, rv5, hl5, hd5, hk5⟩; have HL5 := Lib.hid hl5; have HD5 := Lib.hid hd5; clear hl5 hd5 hk5; dsimp only))
          go_roundw
          case rel => exact ⟨j + 1, left, g, d, sv1, rv5, by omega, by go_num, rfl, HL5, HD5, HF, HR⟩
          case measure => simp [intOf]; omega
        · by_cases hfu : left < (k : Int)
          · rw [if_neg hneg] at HRM
            have hz := fun w => run_zs .u8 k (by omega) w
            have HAP : Hid (g.append d (zs k) = (7, g, d)) := Lib.hid (HR.out.full HF.out (by rw [List.length_replicate]; omega))
            have hlk : (k : Int) > left := by omega
            go_wp2_with (first | ((with_reducible refine HRM.out.mono ?_); rintro e w4 ⟨rfl, hb4⟩; have HB4 := Lib.hid hb4; clear hb4; have HL4 : Hid (LM w w4 L p S E g sv1 rv1) := Lib.hid (Lm.below HL.out HB4.out); have HD4 := Lib.hid (HD.out.below HB4.out)) | ((with_reducible refine (append_zs (m := k) (g := g) (d := d) HL4.out HD4.out HFT.out (by omega) HT.out).mono ?_); rw [HAP.out]; rintro e w5 ⟨rfl, rv5, hl5, hd5, hk5⟩; have HL5 := Lib.hid hl5; have HD5 := Lib.hid hd5; clear hl5 hd5 hk5; dsimp only))
            go_roundw
            case rel => exact ⟨j + 1, left, g, d, sv1, rv5, by omega, by go_num, rfl, HL5, HD5, HF, HR⟩
            case measure => simp [intOf]; omega
          · rw [if_neg hneg] at HRM
            have hz := fun w => run_zs .u8 k (by omega) w
            obtain ⟨g2, d2, hap, hr2, hf2⟩ := HR.out.fits HF.out (b := zs k) (by rw [List.length_replicate]; omega)
            have HAP := Lib.hid hap
            have HR2 := Lib.hid hr2
            have HF2 := Lib.hid hf2
            clear hap hr2 hf2
            rw [List.length_replicate] at HR2
            have hlk : ¬ (k : Int) > left := by omega
            have hl2 := HLF.out
            have hw1 : wrap64 (16 + (k : Int)) = 16 + (k : Int) := IntWalk.wrap64_in _ (by omega)
            have hw2 : wrap64 (left - (16 + (k : Int))) = left - (16 + (k : Int)) := IntWalk.wrap64_in _ (by clear hw1; omega)
            clear hl2
            go_wp2_with (first | ((with_reducible refine HRM.out.mono ?_); rintro e w4 ⟨rfl, hb4⟩; have HB4 := Lib.hid hb4; clear hb4; have HL4 : Hid (LM w w4 L p S E g sv1 rv1) := Lib.hid (Lm.below HL.out HB4.out); have HD4 := Lib.hid (HD.out.below HB4.out)) | ((with_reducible refine (append_zs (m := k) (g := g) (d := d) HL4.out HD4.out HFT.out (by omega) HT.out).mono ?_); rw [HAP.out]; rintro e w5 ⟨rfl, rv5, hl5, hd5, hk5⟩; have HL5 := Lib.hid hl5; have HD5 := Lib.hid hd5; clear hl5 hd5 hk5; dsimp only))
            clear hw1 hw2
            go_roundw
            case rel => exact ⟨j + 1, left - (16 + (k : Int)), g2, d2, sv1, rv5, by omega, by go_num, rfl, HL5, HD5, HF2, HR2⟩
            case measure => simp [intOf]; omega
      · by_cases hneg : left < -1
        · rw [if_pos hneg] at HRM
          have hn0 : ¬ left ≥ 0 := by omega
          go_upto_region 24 with ((with_reducible refine HRM.out.mono ?_); rintro e w4 ⟨rfl, hb4⟩; have HB4 := Lib.hid hb4; clear hb4; have HL4 : Hid (LM w w4 L p S E g sv1 rv1) := Lib.hid (Lm.below HL.out HB4.out); have HD4 := Lib.hid (HD.out.below HB4.out))
          have HFX := Lib.hid (fixed_any HD4.out.m.hb HT.out)
          obtain ⟨m1, hm1⟩ : ∃ m1 : Nat, (h : Int) - 15 = (m1 : Int) := ⟨h - 15, by omega⟩
          obtain ⟨m2, hm2⟩ : ∃ m2 : Nat, (h : Int) - 16 = (m2 : Int) := ⟨h - 16, by omega⟩
          have hz1 := run_zs' (h - 15 : Int) m1 hm1 (by omega)
          have hz2 := run_zs' (h - 16 : Int) m2 hm2 (by omega)
          have HM : Hid ((h : Int) - 15 = (m1 : Int) ∧ (h : Int) - 16 = (m2 : Int)) := Lib.hid ⟨hm1, hm2⟩
          have HC1 : Hid (g.compact d (zs m1) = (7, g, d)) := Lib.hid (HR.out.over HF.out (by rw [List.length_replicate]; omega))
          obtain ⟨d3, hc2, hf3⟩ := HR.out.turns HF.out (b := zs m2) (by rw [List.length_replicate]; omega)
          have HC2 := Lib.hid hc2
          have HG2 : Hid (2 * g.half ≤ (N : Int) ∧ 1 ≤ g.half) := Lib.hid (by have a := HR.out.half; have b := HH.out; omega)
          have hm1l : m1 ≤ 4194304 := by omega
          have hm2l : m2 ≤ 4194304 := by omega
          clear hc2 hf3 hm1 hm2
          go_wp2_with (first | ((with_reducible refine HFX.out.mono ?_); rintro e w6 ⟨rfl, hb6⟩; have HB6 := Lib.hid hb6; clear hb6; have HL6 : Hid (LM w w6 L p S E g sv1 rv1) := Lib.hid (Lm.below HL4.out HB6.out); have HD6 := Lib.hid (HD4.out.below HB6.out)) | ((with_reducible refine (compact_zs (m := m1) (g := g) (d := d) HL6.out HD6.out HFT.out HG2.out.1 HG2.out.2 hm1l HT.out).mono ?_); rw [HC1.out]; rintro e w7 ⟨rfl, sv7, rv7, hl7, hd7, hk7⟩; have HL7 := Lib.hid hl7; have HD7 := Lib.hid hd7; clear hl7 hd7 hk7; dsimp only) | ((with_reducible refine (compact_zs (m := m2) (g := g) (d := d) HL7.out HD7.out HFT.out HG2.out.1 HG2.out.2 hm2l HT.out).mono ?_); rw [HC2.out]; rintro e w8 ⟨rfl, sv8, rv8, hl8, hd8, hk8⟩; have HL8 : Hid (Lm w w8 L p S E (h : Int) 0 (16 + ((zs m2).length : Int)) 2 sv8 rv8 (zs m2) [] false) := Lib.hid hl8; have HD8 := Lib.hid hd8; clear hl8 hd8 hk8; dsimp only) | ((with_reducible refine (gen_any (cell_eq (blk_cell HL8.out.hL 4) rfl)).mono ?_); rintro e w9 ⟨rfl, rfl⟩) | ((with_reducible refine (room_last HL8.out HM.out.2 HLF.out.2.2).mono ?_); rintro e w9 ⟨rfl, hb9⟩; have HB9 := Lib.hid hb9; clear hb9))
          go_ret
          exact ⟨rfl, HD8.out.m.hb.trans (HB9.out.mono HD8.out.m.hb.size)⟩
        · rw [if_neg hneg] at HRM
          by_cases hn0 : left ≥ 0
          · obtain ⟨k, hk⟩ : ∃ k : Nat, left = (k : Int) := ⟨left.toNat, by omega⟩
            subst hk
            have hz := run_zs' ((k : Int) + 1) (k + 1) (by omega) (by omega)
            have HAP : Hid (g.append d (zs (k + 1)) = (7, g, d)) := Lib.hid (HR.out.full HF.out (by rw [List.length_replicate]; omega))
            have hgt : (k : Int) ≥ 0 := by omega
            go_upto_region 24 with (first | ((with_reducible refine HRM.out.mono ?_); rintro e w4 ⟨rfl, hb4⟩; have HB4 := Lib.hid hb4; clear hb4; have HL4 : Hid (LM w w4 L p S E g sv1 rv1) := Lib.hid (Lm.below HL.out HB4.out); have HD4 := Lib.hid (HD.out.below HB4.out)) | ((with_reducible refine (append_zs (m := k + 1) (g := g) (d := d) HL4.out HD4.out HFT.out (by omega) HT.out).mono ?_); rw [HAP.out]; rintro e w5 ⟨rfl, rv5, hl5, hd5, hk5⟩; have HL5 := Lib.hid hl5; have HD5 := Lib.hid hd5; clear hl5 hd5 hk5; dsimp only))
            clear hz
            have HFX := Lib.hid (fixed_any HD5.out.m.hb HT.out)
            obtain ⟨m1, hm1⟩ : ∃ m1 : Nat, (h : Int) - 15 = (m1 : Int) := ⟨h - 15, by omega⟩
            obtain ⟨m2, hm2⟩ : ∃ m2 : Nat, (h : Int) - 16 = (m2 : Int) := ⟨h - 16, by omega⟩
            have hz1 := run_zs' (h - 15 : Int) m1 hm1 (by omega)
            have hz2 := run_zs' (h - 16 : Int) m2 hm2 (by omega)
            have HM : Hid ((h : Int) - 15 = (m1 : Int) ∧ (h : Int) - 16 = (m2 : Int)) := Lib.hid ⟨hm1, hm2⟩
            have HC1 : Hid (g.compact d (zs m1) = (7, g, d)) := Lib.hid (HR.out.over HF.out (by rw [List.length_replicate]; omega))
            obtain ⟨d3, hc2, hf3⟩ := HR.out.turns HF.out (b := zs m2) (by rw [List.length_replicate]; omega)
            have HC2 := Lib.hid hc2
            have HG2 : Hid (2 * g.half ≤ (N : Int) ∧ 1 ≤ g.half) := Lib.hid (by have a := HR.out.half; have b := HH.out; omega)
            have hm1l : m1 ≤ 4194304 := by omega
            have hm2l : m2 ≤ 4194304 := by omega
            clear hc2 hf3 hm1 hm2
            go_wp2_with (first | ((with_reducible refine HFX.out.mono ?_); rintro e w6 ⟨rfl, hb6⟩; have HB6 := Lib.hid hb6; clear hb6; have HL6 : Hid (LM w w6 L p S E g sv1 rv5) := Lib.hid (Lm.below HL5.out HB6.out); have HD6 := Lib.hid (HD5.out.below HB6.out)) | ((with_reducible refine (compact_zs (m := m1) (g := g) (d := d) HL6.out HD6.out HFT.out HG2.out.1 HG2.out.2 hm1l HT.out).mono ?_); rw [HC1.out]; rintro e w7 ⟨rfl, sv7, rv7, hl7, hd7, hk7⟩; have HL7 := Lib.hid hl7; have HD7 := Lib.hid hd7; clear hl7 hd7 hk7; dsimp only) | ((with_reducible refine (compact_zs (m := m2) (g := g) (d := d) HL7.out HD7.out HFT.out HG2.out.1 HG2.out.2 hm2l HT.out).mono ?_); rw [HC2.out]; rintro e w8 ⟨rfl, sv8, rv8, hl8, hd8, hk8⟩; have HL8 : Hid (Lm w w8 L p S E (h : Int) 0 (16 + ((zs m2).length : Int)) 2 sv8 rv8 (zs m2) [] false) := Lib.hid hl8; have HD8 := Lib.hid hd8; clear hl8 hd8 hk8; dsimp only) | ((with_reducible refine (gen_any (cell_eq (blk_cell HL8.out.hL 4) rfl)).mono ?_); rintro e w9 ⟨rfl, rfl⟩) | ((with_reducible refine (room_last HL8.out HM.out.2 HLF.out.2.2).mono ?_); rintro e w9 ⟨rfl, hb9⟩; have HB9 := Lib.hid hb9; clear hb9))
            go_ret
            exact ⟨rfl, HD8.out.m.hb.trans (HB9.out.mono HD8.out.m.hb.size)⟩
          · go_upto_region 24 with ((with_reducible refine HRM.out.mono ?_); rintro e w4 ⟨rfl, hb4⟩; have HB4 := Lib.hid hb4; clear hb4; have HL4 : Hid (LM w w4 L p S E g sv1 rv1) := Lib.hid (Lm.below HL.out HB4.out); have HD4 := Lib.hid (HD.out.below HB4.out))
            have HFX := Lib.hid (fixed_any HD4.out.m.hb HT.out)
            obtain ⟨m1, hm1⟩ : ∃ m1 : Nat, (h : Int) - 15 = (m1 : Int) := ⟨h - 15, by omega⟩
            obtain ⟨m2, hm2⟩ : ∃ m2 : Nat, (h : Int) - 16 = (m2 : Int) := ⟨h - 16, by omega⟩
            have hz1 := run_zs' (h - 15 : Int) m1 hm1 (by omega)
            have hz2 := run_zs' (h - 16 : Int) m2 hm2 (by omega)
            have HM : Hid ((h : Int) - 15 = (m1 : Int) ∧ (h : Int) - 16 = (m2 : Int)) := Lib.hid ⟨hm1, hm2⟩
            have HC1 : Hid (g.compact d (zs m1) = (7, g, d)) := Lib.hid (HR.out.over HF.out (by rw [List.length_replicate]; omega))
            obtain ⟨d3, hc2, hf3⟩ := HR.out.turns HF.out (b := zs m2) (by rw [List.length_replicate]; omega)
            have HC2 := Lib.hid hc2
            have HG2 : Hid (2 * g.half ≤ (N : Int) ∧ 1 ≤ g.half) := Lib.hid (by have a := HR.out.half; have b := HH.out; omega)
            have hm1l : m1 ≤ 4194304 := by omega
            have hm2l : m2 ≤ 4194304 := by omega
            clear hc2 hf3 hm1 hm2
            go_wp2_with (first | ((with_reducible refine HFX.out.mono ?_); rintro e w6 ⟨rfl, hb6⟩; have HB6 := Lib.hid hb6; clear hb6; have HL6 : Hid (LM w w6 L p S E g sv1 rv1) := Lib.hid (Lm.below HL4.out HB6.out); have HD6 := Lib.hid (HD4.out.below HB6.out)) | ((with_reducible refine (compact_zs (m := m1) (g := g) (d := d) HL6.out HD6.out HFT.out HG2.out.1 HG2.out.2 hm1l HT.out).mono ?_); rw [HC1.out]; rintro e w7 ⟨rfl, sv7, rv7, hl7, hd7, hk7⟩; have HL7 := Lib.hid hl7; have HD7 := Lib.hid hd7; clear hl7 hd7 hk7; dsimp only) | ((with_reducible refine (compact_zs (m := m2) (g := g) (d := d) HL7.out HD7.out HFT.out HG2.out.1 HG2.out.2 hm2l HT.out).mono ?_); rw [HC2.out]; rintro e w8 ⟨rfl, sv8, rv8, hl8, hd8, hk8⟩; have HL8 : Hid (Lm w w8 L p S E (h : Int) 0 (16 + ((zs m2).length : Int)) 2 sv8 rv8 (zs m2) [] false) := Lib.hid hl8; have HD8 := Lib.hid hd8; clear hl8 hd8 hk8; dsimp only) | ((with_reducible refine (gen_any (cell_eq (blk_cell HL8.out.hL 4) rfl)).mono ?_); rintro e w9 ⟨rfl, rfl⟩) | ((with_reducible refine (room_last HL8.out HM.out.2 HLF.out.2.2).mono ?_); rintro e w9 ⟨rfl, hb9⟩; have HB9 := Lib.hid hb9; clear hb9))
            go_ret
            exact ⟨rfl, HD8.out.m.hb.trans (HB9.out.mono HD8.out.m.hb.size)⟩
end Go.Proofs.YtndelndgioojgaaDoor.Own
