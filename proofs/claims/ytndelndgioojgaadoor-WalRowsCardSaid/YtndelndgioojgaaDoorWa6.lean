import Derived.Test.YtndelndgioojgaaDoorWa5
namespace Go.Proofs.YtndelndgioojgaaDoor.Own
open Go.RowKit Go.Proofs.YtndelndgioojgaaDoorW.PrintWords Go.Proofs.YtndelndgioojgaaDoorW.PrintLast Go.Proofs.YtndelndgioojgaaDoorW.PrintMore
set_option linter.unusedVariables false
set_option linter.unusedSimpArgs false
def FallPost (w0 w : World) (p S E n : Nat) (sure : List Int) (keep : Int) (a : Nat) (b : List Int) (e : Ending) (w' : World) : Prop :=
  e = .returned (.int .i64 12) ∧ Dm w0 w' p S E n (splice sure a (b.take (keptN keep b.length))) (splice sure a (b.take (keptN keep b.length))) (.slice none 0 0) true (-1) keep ∧ Kept w w' (DS p S E)
set_option maxHeartbeats 4000000 in
set_option maxRecDepth 100000 in
theorem write_fall {w0 w : World} {p S E n : Nat} {sure seen : List Int} {keep : Int} {A : Option Addr} {c a : Nat} {b : List Int}
    (hd : Dm w0 w p S E n sure seen (.slice none 0 0) false 0 keep) (hbE : ∀ W, Kept w W (DS p S E) → Kd.C (Kd.int .u8) W A b.length b) (hc : b.length ≤ c) (ha : a + b.length ≤ n) (hb0 : 0 < b.length) :
    Calls Tryd.prog 41 #[.pointer (some ⟨p, 0, none⟩), .int .i64 a, .slice A b.length c] w (FallPost w0 w p S E n sure keep a b) := by
  have hn := hd.hn
  have c0 := cell_eq (blk_cell hd.hp 0) rfl
  have c1 := cell_eq (blk_cell hd.hp 1) rfl
  have c3 := cell_eq (blk_cell hd.hp 3) rfl
  have hb := hbE w (Kept.refl _ _)
  obtain ⟨ad, rfl, hrd⟩ := (Kd.reads_of_C (d := (0 : Int)) hb).2.2 hb0
  have HD := Lib.hid hd
  have HRD := Lib.hid hrd
  have HB := Lib.hid hbE
  clear hd hb hrd hbE
  have ha1 : (a : Int) ≤ (n : Int) := by omega
  have hne : ¬ n = a := by omega
  have hlt : a < n := by omega
  go_enter Tryd.func41, Tryd.ntmps41
  go_wp2_with (first | ((with_reducible refine (on_any w c3).mono ?_); rintro e w' ⟨rfl, rfl⟩) | ((with_reducible refine (in_any w (a : Int) (b.length : Int) c0 (by omega) (by omega) (by omega) hn).mono ?_); rintro e w' ⟨rfl, rfl⟩) | (with_reducible refine wpList_copy_own rfl (.tmp 23) (.tmp 24) 23 23 rfl 5 Tryd.underlying23 (by kernel_rfl) E a (n - a) (n - a) ad b.length c rfl rfl _ 5 HD.out.hE (b.map (Value.int .u8)) ?_ ?_ ?_ ?_ ?_))
  · simp only [List.length_map]; exact (Nat.min_eq_left (by omega)).symm
  · intro j v hj
    obtain ⟨hj1, hj2⟩ := List.getElem?_eq_some_iff.1 hj
    simp only [List.length_map] at hj1
    rw [HRD.out j hj1, ← hj2, List.getElem_map, List.getD_eq_getElem?_getD, List.getElem?_eq_getElem hj1]
    rfl
  · simp only [List.length_map, bytes_size, HD.out.lE]; omega
  · intro v hv
    obtain ⟨x, _, rfl⟩ := List.mem_map.1 hv
    rfl
  rw [splice_cells seen a b]
  have HD2 := Lib.hid (HD.out.copyE (splice seen a b) (by rw [splice_len (by rw [HD.out.lE]; exact ha), HD.out.lE]))
  have HK2 := Lib.hid (kept_setRow (X := DS p S E) (Kept.refl w _) (.inr (.inr rfl)) (bytes (splice seen a b)))
  clear c0 c1 c3 HD
  generalize w.setRow E (bytes (splice seen a b)) = w2 at HD2 HK2 ⊢
  go_wp2
  have HB2 := Lib.hid (HB.out w2 HK2.out)
  refine wr6_wp HD2 HB2 hc (by omega) (Lib.hid fun c a N v w h => by cases N <;> exact h) (Lib.hid ?_)
  intro d26 d27 d28 d29 d30 d31 d32 d33 d34 d35 d36 d37 d38 w3 wv HD3 HK3 HW3
  have k4 := cell_eq (blk_cell HD3.out.hp 4) rfl
  have k5 := cell_eq (blk_cell HD3.out.hp 5) rfl
  have HK : Hid (Kept w w3 (DS p S E)) := Lib.hid (HK2.out.then_ HK3.out (fun k hk => .inl hk))
  have HF := Lib.hid (fall_any keep HD3.out HW3.out ha hb0)
  clear HB2 HD2 HK2 HK3 HB HRD HW3 HD3
  go_wp2_with (first | ((with_reducible refine HF.out.mono ?_); rintro e w4 ⟨rfl, hd4, hk4⟩; have HD4 := Lib.hid hd4; have HK4 := Lib.hid hk4; clear hd4 hk4))
  go_ret
  exact ⟨rfl, HD4.out, HK.out.then_ HK4.out (fun k hk => .inl hk)⟩
theorem write_off {w : World} {p : Nat} {at' : Int} {bv : Value} (c3 : w.cell? ⟨p, 3, none⟩ = some (.bool true)) :
    Calls Tryd.prog 41 #[.pointer (some ⟨p, 0, none⟩), .int .i64 at', bv] w (fun e w' => e = .returned (.int .i64 12) ∧ w = w') := by
  go_enter Tryd.func41, Tryd.ntmps41
  go_wp2_with (first | ((with_reducible refine (on_any w c3).mono ?_); rintro e w' ⟨rfl, rfl⟩))
  go_ret
  exact ⟨rfl, rfl⟩
/-- A disk, told: its bytes, whether it is off, its fuse. -/
structure Dk where
  bs : List Int
  off : Bool
  fuse : Int
  keep : Int
/-- A write that is made sure of; whether it is answered OK. -/
def Dk.put (d : Dk) (a : Nat) (b : List Int) : Dk × Bool :=
  if d.off = true then (d, false) else
    if d.fuse = 0 then (⟨splice d.bs a (b.take (keptN d.keep b.length)), true, -1, d.keep⟩, false) else (⟨splice d.bs a b, false, burnt d.fuse, d.keep⟩, true)
/-- A disk in memory, nothing waits. -/
structure Dsk (w0 w : World) (p S E n : Nat) (d : Dk) : Prop where
  m : Dm w0 w p S E n d.bs d.bs (.slice none 0 0) d.off d.fuse d.keep
  f1 : -1 ≤ d.fuse
  f2 : d.fuse ≤ 9223372036854775807
/-- A log in memory; its snapshot, its records. -/
structure Lm (w0 w : World) (L p S E : Nat) (half frm end_ gen : Int) (sv rv : Value) (snap : List Int) (recs : List (List Int)) (down : Bool) : Prop where
  hL : w.heap[L]? = some (.cells #[.pointer (some ⟨p, 0, none⟩), .int .i64 half, .int .i64 frm, .int .i64 end_, .int .u32 gen, sv, rv, .bool down] 56 (0, 0))
  hs : Kd.R (Kd.int .u8) 5 w w0.heap.size (fun k => k ≠ S ∧ k ≠ E) sv snap
  hr : Kd.R (Kd.slice 5 (Kd.int .u8)) 23 w w0.heap.size (fun k => k ≠ S ∧ k ≠ E) rv recs
  nL : w0.heap.size ≤ L
variable {w0 w w1 : World} {L p S E n : Nat} {half frm end_ gen : Int} {sv rv : Value} {snap : List Int} {recs : List (List Int)} {down : Bool} {d : Dk}
/-- Rows keep behind a change of blocks that are none of theirs. -/
theorem R_types {α : Type} {k : Kd α} {e : Nat} {ok : Nat → Prop} {v : Value} {xs : List α} {X : Nat → Prop} (h : k.R e w w0.heap.size ok v xs) (hk : Kept w w1 X) (hx : ∀ j, X j → ok j → ∃ cs t, w.heap[j]? = some (.cells cs t (0, 0)) ∧ t ∉ e :: k.E) : k.R e w1 w0.heap.size ok v xs := by
  have h2 := Kd.R_kept (S := X) (Kd.R_bound h) hk (fun j hj hX => ?_)
  · exact Kd.R_mono h2 (fun _ hj => hj.1)
  · obtain ⟨ho, _, _, q, hq, cells, hc⟩ := hj
    obtain ⟨cs, t, ht, hn⟩ := hx j hX ho
    rw [ht] at hc
    simp only [Option.some.injEq, Obj.cells.injEq] at hc
    exact hn (hc.2.1 ▸ hq)
/-- What a log's call writes of the blocks that are there. -/
def LS (L p S E k : Nat) : Prop := DS p S E k ∨ k = L
theorem Lm.keptD (h : Lm w0 w L p S E half frm end_ gen sv rv snap recs down) {a c : List Int} {wv : Value} {off : Bool} {f k : Int} (hd : Dm w0 w p S E n a c wv off f k) (hk : Kept w w1 (DS p S E)) : Lm w0 w1 L p S E half frm end_ gen sv rv snap recs down := by
  have hp : ∀ j, DS p S E j → (j ≠ S ∧ j ≠ E) → ∃ cs t, w.heap[j]? = some (.cells cs t (0, 0)) ∧ t = 54 := by
    rintro j (rfl | rfl | rfl) ⟨h1, h2⟩
    · exact ⟨_, _, hd.hp, rfl⟩
    · exact absurd rfl h1
    · exact absurd rfl h2
  refine ⟨blk_kept h.hL hk ?_, R_types h.hs hk ?_, R_types h.hr hk ?_, h.nL⟩
  · rintro (rfl | rfl | rfl)
    · exact ne_type h.hL hd.hp (by decide) rfl
    · exact ne_type h.hL hd.hS (by decide) rfl
    · exact ne_type h.hL hd.hE (by decide) rfl
  · intro j hj ho
    obtain ⟨cs, t, h1, rfl⟩ := hp j hj ho
    exact ⟨cs, 54, h1, by simp [Kd.int, Kd.scalar]⟩
  · intro j hj ho
    obtain ⟨cs, t, h1, rfl⟩ := hp j hj ho
    exact ⟨cs, 54, h1, by simp [Kd.slice, Kd.int, Kd.scalar]⟩
/-- A cell of the log's own is written. -/
theorem R_setL {α : Type} {k : Kd α} {e j : Nat} {ok : Nat → Prop} {v u : Value} {xs : List α} {cs : Array Value} (h : k.R e w w0.heap.size ok v xs) (hL : w.heap[L]? = some (.cells cs 56 (0, 0))) (h56 : 56 ∉ e :: k.E) : k.R e (w.setCell ⟨L, j, none⟩ u) w0.heap.size ok v xs :=
  R_types (X := fun i => i = L) h ⟨by simp [World.setCell], fun i _ hn => heap_setCell_other w ⟨L, j, none⟩ i u hn⟩ (fun i hi _ => by subst hi; exact ⟨cs, 56, hL, h56⟩)
theorem no56a : (56 : Nat) ∉ 5 :: (Kd.int .u8).E := by simp [Kd.int, Kd.scalar]
theorem no56b : (56 : Nat) ∉ 23 :: (Kd.slice 5 (Kd.int .u8)).E := by simp [Kd.slice, Kd.int, Kd.scalar]
theorem Lm.setDown (h : Lm w0 w L p S E half frm end_ gen sv rv snap recs down) (b : Bool) : Lm w0 (w.setCell ⟨L, 7, none⟩ (.bool b)) L p S E half frm end_ gen sv rv snap recs b :=
  ⟨by simpa using Go.Joins.block_setCell h.hL (i := 7) (.bool b), R_setL h.hs h.hL no56a, R_setL h.hr h.hL no56b, h.nL⟩
theorem Dsk.setL (h : Dsk w0 w p S E n d) {cs : Array Value} (hL : w.heap[L]? = some (.cells cs 56 (0, 0))) (nL : w0.heap.size ≤ L) (j : Nat) (u : Value) : Dsk w0 (w.setCell ⟨L, j, none⟩ u) p S E n d :=
  ⟨⟨set_other h.m.hp _ _ (ne_type h.m.hp hL (by decide)), set_other h.m.hS _ _ (ne_type h.m.hS hL (by decide)), set_other h.m.hE _ _ (ne_type h.m.hE hL (by decide)), h.m.lS, h.m.lE, h.m.hb.setCell nL u, h.m.np, h.m.nS, h.m.nE, h.m.SE, h.m.hn⟩, h.f1, h.f2⟩
theorem Dsk.below (h : Dsk w0 w p S E n d) (hb : Below w.heap.size w w1) : Dsk w0 w1 p S E n d := ⟨h.m.below hb, h.f1, h.f2⟩
theorem Lm.below (h : Lm w0 w L p S E half frm end_ gen sv rv snap recs down) (hb : Below w.heap.size w w1) : Lm w0 w1 L p S E half frm end_ gen sv rv snap recs down :=
  ⟨keep_below hb h.hL, Kd.R_below h.hs hb, Kd.R_below h.hr hb, h.nL⟩
theorem burnt_bd {f : Int} (h0 : f ≠ 0) (h1 : -1 ≤ f) (h2 : f ≤ 9223372036854775807) : -1 ≤ burnt f ∧ burnt f ≤ 9223372036854775807 := by
  unfold burnt
  split <;> omega
def WritesPost (w0 w : World) (L p S E n : Nat) (half frm end_ gen : Int) (sv rv : Value) (snap : List Int) (recs : List (List Int)) (down : Bool) (d : Dk) (a : Nat) (b : List Int) (e : Ending) (w' : World) : Prop :=
  e = .returned (.int .i64 (if (d.put a b).2 = true then 0 else 12)) ∧ Dsk w0 w' p S E n (d.put a b).1 ∧ Lm w0 w' L p S E half frm end_ gen sv rv snap recs (down || !(d.put a b).2) ∧ Kept w w' (LS L p S E)
set_option maxHeartbeats 4000000 in
set_option maxRecDepth 100000 in
theorem writes_any {A : Option Addr} {c a : Nat} {b : List Int} (hl : Lm w0 w L p S E half frm end_ gen sv rv snap recs down) (hd : Dsk w0 w p S E n d) (hbE : ∀ W, Kept w W (DS p S E) → Kd.C (Kd.int .u8) W A b.length b) (hc : b.length ≤ c) (ha : a + b.length ≤ n) (hb0 : 0 < b.length) :
    Calls Tryd.prog 27 #[.pointer (some ⟨L, 0, none⟩), .int .i64 a, .slice A b.length c] w (WritesPost w0 w L p S E n half frm end_ gen sv rv snap recs down d a b) := by
  have l0 := cell_eq (blk_cell hl.hL 0) rfl
  have l7 := cell_eq (blk_cell hl.hL 7) rfl
  have g7 := blk_frozen hl.hL 7
  have d3 := cell_eq (blk_cell hd.m.hp 3) rfl
  have HL := Lib.hid hl
  have HD := Lib.hid hd
  have HB := Lib.hid hbE
  clear hl hd hbE
  cases hoff : d.off with
  | true =>
    rw [hoff] at d3
    have HP : Hid (d.put a b = (d, false)) := Lib.hid (by unfold Dk.put; rw [if_pos hoff])
    clear hoff
    go_enter Tryd.func27, Tryd.ntmps27
    go_wp2_with (first | ((with_reducible refine (write_off d3).mono ?_); rintro e w' ⟨rfl, rfl⟩))
    go_ret
    unfold WritesPost
    rw [HP.out]
    exact ⟨rfl, HD.out.setL HL.out.hL HL.out.nL _ _, by rw [show (down || !false) = true from by cases down <;> rfl]; exact HL.out.setDown true, (Kept.refl _ _).setCell (.inl (.inr rfl)) _⟩
  | false =>
    by_cases hf : d.fuse = 0
    · have HP : Hid (d.put a b = (⟨splice d.bs a (b.take (keptN d.keep b.length)), true, -1, d.keep⟩, false)) := Lib.hid (by unfold Dk.put; rw [if_neg (by rw [hoff]; simp), if_pos hf])
      have HW := Lib.hid (write_fall (w := w) (b := b) (A := A) (c := c) (a := a) (by have := HD.out.m; rw [hoff, hf] at this; exact this) HB.out hc ha hb0)
      clear hoff hf d3
      go_enter Tryd.func27, Tryd.ntmps27
      go_upto_region 2 with ((with_reducible refine HW.out.mono ?_); rintro e w2 ⟨rfl, hd2, hk2⟩; have HD2 := Lib.hid hd2; have HK2 := Lib.hid hk2; clear hd2 hk2)
      have HL2 := Lib.hid (HL.out.keptD HD.out.m HK2.out)
      have HQ2 : Hid (Dsk w0 w2 p S E n ⟨splice d.bs a (b.take (keptN d.keep b.length)), true, -1, d.keep⟩) := Lib.hid ⟨HD2.out, by show (-1 : Int) ≤ -1; omega, by show (-1 : Int) ≤ 9223372036854775807; omega⟩
      have l7' := cell_eq (blk_cell HL2.out.hL 7) rfl
      have g7' := blk_frozen HL2.out.hL 7
      clear HW HD2 l7 g7 l0
      go_wp2
      go_ret
      unfold WritesPost
      rw [HP.out]
      exact ⟨rfl, HQ2.out.setL HL2.out.hL HL2.out.nL _ _, by rw [show (down || !false) = true from by cases down <;> rfl]; exact HL2.out.setDown true, (HK2.out.mono (fun k hk => .inl hk)).setCell (.inl (.inr rfl)) _⟩
    · have HP : Hid (d.put a b = (⟨splice d.bs a b, false, burnt d.fuse, d.keep⟩, true)) := Lib.hid (by unfold Dk.put; rw [if_neg (by rw [hoff]; simp), if_neg hf])
      have HF := Lib.hid (burnt_bd hf HD.out.f1 HD.out.f2)
      have HW := Lib.hid (write_ok (w := w) (b := b) (A := A) (c := c) (a := a) (by have := HD.out.m; rw [hoff] at this; exact this) HB.out hc ha hb0 hf HD.out.f1 HD.out.f2)
      clear hoff hf d3
      go_enter Tryd.func27, Tryd.ntmps27
      go_upto_region 2 with ((with_reducible refine HW.out.mono ?_); rintro e w2 ⟨rfl, wv, hd2, hk2, hw2⟩; have HD2 := Lib.hid hd2; have HK2 := Lib.hid hk2; have HV2 := Lib.hid hw2; clear hd2 hk2 hw2)
      have HL2 := Lib.hid (HL.out.keptD HD.out.m HK2.out)
      have l0' := cell_eq (blk_cell HL2.out.hL 0) rfl
      have HS := Lib.hid (sync_any HD2.out HV2.out ha hb0)
      clear HW l7 g7 l0
      go_wp2_with (first | ((with_reducible refine HS.out.mono ?_); rintro e w3 ⟨rfl, hd3, hk3⟩; have HD3 := Lib.hid hd3; have HK3 := Lib.hid hk3; clear hd3 hk3))
      go_ret
      unfold WritesPost
      rw [HP.out]
      exact ⟨rfl, ⟨HD3.out, HF.out.1, HF.out.2⟩, by rw [show (down || !true) = down from by cases down <;> rfl]; exact HL2.out.keptD HD2.out HK3.out, (HK2.out.then_ HK3.out (fun k hk => .inl hk)).mono (fun k hk => .inl hk)⟩
end Go.Proofs.YtndelndgioojgaaDoor.Own
