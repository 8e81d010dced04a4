import Derived.Test.YtndelndgioojgaaDoorWq4
import Derived.Deep.Matrix
namespace Go.Proofs.YtndelndgioojgaaDoor.Own
open Go.RowKit Go.Proofs.YtndelndgioojgaaDoorW.PrintWords Go.Proofs.YtndelndgioojgaaDoorW.PrintLast Go.Proofs.YtndelndgioojgaaDoorW.PrintMore
set_option linter.unusedVariables false
set_option linter.unusedSimpArgs false
/-- What a log's call writes is none of a told state's. -/
theorem as_types {w0 w : World} {L p S E n : Nat} {half frm end_ gen : Int} {sv rv : Value} {snap : List Int} {recs : List (List Int)} {down : Bool} {d : Dk} (hl : Lm w0 w L p S E half frm end_ gen sv rv snap recs down) (hd : Dsk w0 w p S E n d) :
    ∀ k, AS L p S E rv k → ∃ cs t, w.heap[k]? = some (.cells cs t (0, 0)) ∧ (t = 54 ∨ t = 5 ∨ t = 56 ∨ t = 23) := by
  intro k hk
  rcases hk with ((rfl | rfl | rfl) | rfl) | hk
  · exact ⟨_, 54, hd.m.hp, .inl rfl⟩
  · exact ⟨_, 5, hd.m.hS, .inr (.inl rfl)⟩
  · exact ⟨_, 5, hd.m.hE, .inr (.inl rfl)⟩
  · exact ⟨_, 56, hl.hL, .inr (.inr (.inl rfl))⟩
  · obtain ⟨inn, hown, _⟩ := hl.hr.2
    obtain ⟨cs, h⟩ := own_typed hown k hk.symm
    exact ⟨cs, 23, h, .inr (.inr (.inr rfl))⟩
theorem keep_blk {w0 w w1 : World} {L p S E n g8 : Nat} {half frm end_ gen : Int} {sv rv : Value} {snap : List Int} {recs : List (List Int)} {down : Bool} {d : Dk} {cs : Array Value} {t : TypeId} (hne : ¬ (t = 54 ∨ t = 5 ∨ t = 56 ∨ t = 23)) (hl : Lm w0 w L p S E half frm end_ gen sv rv snap recs down) (hd : Dsk w0 w p S E n d) (hk : Kept w w1 (AS L p S E rv)) (h8 : w.heap[g8]? = some (.cells cs t (0, 0))) : w1.heap[g8]? = some (.cells cs t (0, 0)) := by
  refine (hk.2 g8 (heap_lt h8) (fun hx => ?_)).trans h8
  obtain ⟨cs', t', e, ht⟩ := as_types hl hd g8 hx
  rw [h8] at e
  injection e with e
  injection e with _ e
  subst e
  exact hne ht
theorem keep_rows {w0 w w1 : World} {L p S E n : Nat} {half frm end_ gen : Int} {sv rv v : Value} {snap : List Int} {recs : List (List Int)} {down : Bool} {d : Dk} {rs : List ByteArray} (hl : Lm w0 w L p S E half frm end_ gen sv rv snap recs down) (hd : Dsk w0 w p S E n d) (hk : Kept w w1 (AS L p S E rv)) (h : Kd.string.R 9 w w0.heap.size (fun _ => True) v rs) : Kd.string.R 9 w1 w0.heap.size (fun _ => True) v rs :=
  R_types h hk (fun j hj _ => by
    obtain ⟨cs', t, e, ht⟩ := as_types hl hd j hj
    exact ⟨cs', t, e, by rcases ht with rfl | rfl | rfl | rfl <;> simp [Kd.string, Kd.scalar]⟩)
theorem Lm.set39 {w0 w : World} {L p S E g8 : Nat} {half frm end_ gen : Int} {sv rv : Value} {snap : List Int} {recs : List (List Int)} {down : Bool} {cs : Array Value} (h : Lm w0 w L p S E half frm end_ gen sv rv snap recs down) (h8 : w.heap[g8]? = some (.cells cs 39 (0, 0))) (j : Nat) (u : Value) : Lm w0 (w.setCell ⟨g8, j, none⟩ u) L p S E half frm end_ gen sv rv snap recs down := by
  have hk : Kept w (w.setCell ⟨g8, j, none⟩ u) (fun i => i = g8) := ⟨by simp [World.setCell], fun i _ hn => heap_setCell_other w ⟨g8, j, none⟩ i u hn⟩
  exact ⟨set_other h.hL _ _ (ne_type h.hL h8 (by decide)), R_types h.hs hk (fun i hi _ => by subst hi; exact ⟨cs, 39, h8, by simp [Kd.int, Kd.scalar]⟩), R_types h.hr hk (fun i hi _ => by subst hi; exact ⟨cs, 39, h8, by simp [Kd.slice, Kd.int, Kd.scalar]⟩), h.nL⟩
theorem Dsk.set39 {w0 w : World} {p S E n g8 : Nat} {d : Dk} {cs : Array Value} (h : Dsk w0 w p S E n d) (h8 : w.heap[g8]? = some (.cells cs 39 (0, 0))) (n8 : w0.heap.size ≤ g8) (j : Nat) (u : Value) : Dsk w0 (w.setCell ⟨g8, j, none⟩ u) p S E n d :=
  ⟨⟨set_other h.m.hp _ _ (ne_type h.m.hp h8 (by decide)), set_other h.m.hS _ _ (ne_type h.m.hS h8 (by decide)), set_other h.m.hE _ _ (ne_type h.m.hE h8 (by decide)), h.m.lS, h.m.lE, h.m.hb.setCell n8 u, h.m.np, h.m.nS, h.m.nE, h.m.SE, h.m.hn⟩, h.f1, h.f2⟩
theorem Lm.set41 {w0 w : World} {L p S E g8 : Nat} {half frm end_ gen : Int} {sv rv : Value} {snap : List Int} {recs : List (List Int)} {down : Bool} {cs : Array Value} (h : Lm w0 w L p S E half frm end_ gen sv rv snap recs down) (h8 : w.heap[g8]? = some (.cells cs 41 (0, 0))) (j : Nat) (u : Value) : Lm w0 (w.setCell ⟨g8, j, none⟩ u) L p S E half frm end_ gen sv rv snap recs down := by
  have hk : Kept w (w.setCell ⟨g8, j, none⟩ u) (fun i => i = g8) := ⟨by simp [World.setCell], fun i _ hn => heap_setCell_other w ⟨g8, j, none⟩ i u hn⟩
  exact ⟨set_other h.hL _ _ (ne_type h.hL h8 (by decide)), R_types h.hs hk (fun i hi _ => by subst hi; exact ⟨cs, 41, h8, by simp [Kd.int, Kd.scalar]⟩), R_types h.hr hk (fun i hi _ => by subst hi; exact ⟨cs, 41, h8, by simp [Kd.slice, Kd.int, Kd.scalar]⟩), h.nL⟩
theorem Dsk.set41 {w0 w : World} {p S E n g8 : Nat} {d : Dk} {cs : Array Value} (h : Dsk w0 w p S E n d) (h8 : w.heap[g8]? = some (.cells cs 41 (0, 0))) (n8 : w0.heap.size ≤ g8) (j : Nat) (u : Value) : Dsk w0 (w.setCell ⟨g8, j, none⟩ u) p S E n d :=
  ⟨⟨set_other h.m.hp _ _ (ne_type h.m.hp h8 (by decide)), set_other h.m.hS _ _ (ne_type h.m.hS h8 (by decide)), set_other h.m.hE _ _ (ne_type h.m.hE h8 (by decide)), h.m.lS, h.m.lE, h.m.hb.setCell n8 u, h.m.np, h.m.nS, h.m.nE, h.m.SE, h.m.hn⟩, h.f1, h.f2⟩
theorem R_set41 {w0 w : World} {g j : Nat} {ok : Nat → Prop} {v u : Value} {xs : List ByteArray} {cs : Array Value} (h : Kd.string.R 9 w w0.heap.size ok v xs) (hL : w.heap[g]? = some (.cells cs 41 (0, 0))) : Kd.string.R 9 (w.setCell ⟨g, j, none⟩ u) w0.heap.size ok v xs :=
  R_types (X := fun i => i = g) h ⟨by simp [World.setCell], fun i _ hn => heap_setCell_other w ⟨g, j, none⟩ i u hn⟩ (fun i hi _ => by subst hi; exact ⟨cs, 41, hL, by simp [Kd.string, Kd.scalar]⟩)
theorem set3_all {w0 w : World} {L p S E n g8 : Nat} {half frm end_ gen : Int} {sv rv a b c x y z : Value} {snap : List Int} {recs : List (List Int)} {down : Bool} {d : Dk} (h : Lm w0 w L p S E half frm end_ gen sv rv snap recs down) (hd : Dsk w0 w p S E n d) (h8 : w.heap[g8]? = some (.cells #[a, b, c] 39 (0, 0))) (n8 : w0.heap.size ≤ g8) :
    Lm w0 (((w.setCell ⟨g8, 0, none⟩ x).setCell ⟨g8, 1, none⟩ y).setCell ⟨g8, 2, none⟩ z) L p S E half frm end_ gen sv rv snap recs down ∧ Dsk w0 (((w.setCell ⟨g8, 0, none⟩ x).setCell ⟨g8, 1, none⟩ y).setCell ⟨g8, 2, none⟩ z) p S E n d := by
  have h1 : (w.setCell ⟨g8, 0, none⟩ x).heap[g8]? = some (.cells #[x, b, c] 39 (0, 0)) := by simpa using Go.Joins.block_setCell h8 (i := 0) x
  have h2 : ((w.setCell ⟨g8, 0, none⟩ x).setCell ⟨g8, 1, none⟩ y).heap[g8]? = some (.cells #[x, y, c] 39 (0, 0)) := by simpa using Go.Joins.block_setCell h1 (i := 1) y
  exact ⟨((h.set39 h8 0 x).set39 h1 1 y).set39 h2 2 z, ((hd.set39 h8 n8 0 x).set39 h1 n8 1 y).set39 h2 n8 2 z⟩
theorem ls_ge {w0 w : World} {L p S E n : Nat} {half frm end_ gen : Int} {sv rv : Value} {snap : List Int} {recs : List (List Int)} {down : Bool} {d : Dk} (h : Lm w0 w L p S E half frm end_ gen sv rv snap recs down) (hd : Dsk w0 w p S E n d) : ∀ k, LS L p S E k → w0.heap.size ≤ k := by
  rintro k ((rfl | rfl | rfl) | rfl)
  · exact hd.m.np
  · exact hd.m.nS
  · exact hd.m.nE
  · exact h.nL
theorem lay_snoc (g : Int) (s : List Int) (rs : List (List Int)) (b : List Int) : (lay g s (rs ++ [b])).length = (lay g s rs).length + (16 + b.length) := by
  rw [lay_len, lay_len, frs_snoc, List.length_append, fr_len]
  omega
theorem Laid.by_ {n h : Nat} {d : Dk} {g : Lg} (hl : Laid n h d g) : By d.bs := by
  obtain ⟨oth, post, hb, _, _, h1, h2, _⟩ := hl.disk
  have h3 : By (lay g.gen g.snap g.recs ++ zs (h - (lay g.gen g.snap g.recs).length)) := by_app.2 ⟨lay_by hl.b1 hl.b2, zeros_by _⟩
  rw [hb]
  split
  · exact by_app.2 ⟨h3, by_app.2 ⟨h1, h2⟩⟩
  · exact by_app.2 ⟨h1, by_app.2 ⟨h3, h2⟩⟩
theorem info39_ : (Tryd.prog.info? 39).map (·.size) = some 3 := by kernel_rfl
theorem info41_ : (Tryd.prog.info? 41).map (·.size) = some 4 := by kernel_rfl
def RowsRel (w : World) (L p S E g8 : Nat) (rows : List (List Int)) (i e : Value) (wr : World) : Prop :=
  ∃ (j : Nat) (g : Lg) (d : Dk) (sv rv vS : Value), j ≤ rows.length ∧ i = .int .i64 (j : Int) ∧ e = .int .i64 0 ∧ Hid (LM w wr L p S E g sv rv) ∧ Hid (Dsk w wr p S E 60000 d) ∧ Hid (Laid 60000 30000 d g) ∧
    Hid (wr.heap[g8]? = some (.cells #[.int .u32 g.gen, .string (str g.snap), vS] 39 (0, 0))) ∧ Hid (Kd.string.R 9 wr w.heap.size (fun _ => True) vS (g.recs.map str)) ∧ Hid (g.gen ≤ (j : Int) + 1 ∧ (lay g.gen g.snap g.recs).length ≤ 516 * (j + 1) ∧ g.recs.length ≤ j)
set_option maxHeartbeats 4000000 in
set_option maxRecDepth 100000 in
theorem walRows_any {w : World} {sn : Int} (hs0 : 0 ≤ sn) (hs1 : sn ≤ 255) {rows : List (List Int)} {A : Option Addr} {c : Nat} (hC : (Kd.slice 5 (Kd.int .u8)).C w A rows.length rows) (hc : rows.length ≤ c) (hby : ∀ r ∈ rows, By r) (ht : Tbl w) :
    Calls Tryd.prog 4 #[.slice A rows.length c, .int .u8 sn] w (FixPost w) := by
  have HC := Lib.hid hC
  have HBY := Lib.hid hby
  have HT := Lib.hid ht
  clear hC hby ht
  by_cases h40 : (40 : Int) < (rows.length : Int)
  · have HFX := Lib.hid (fixed_any (Below.refl _ w) HT.out)
    go_enter Tryd.func4, Tryd.ntmps4
    go_wp2_with (first | ((with_reducible refine HFX.out.mono ?_); rintro e w2 ⟨rfl, hb⟩; have HB := Lib.hid hb; clear hb))
    go_ret
    exact ⟨rfl, HB.out⟩
  · have HNW : Hid (Calls Tryd.prog 7 #[.int .i64 60000] w (NewPost w w 60000)) := Lib.hid (new_any w w (Below.refl _ _) 60000 (by omega))
    obtain ⟨ev, hev, hev1, hev2⟩ : ∃ ev : Nat, 1 + sn % 8 = (ev : Int) ∧ 1 ≤ ev ∧ ev ≤ 8 := ⟨(1 + sn % 8).toNat, by omega, by omega, by omega⟩
    go_enter Tryd.func4, Tryd.ntmps4
    go_upto_region 4 with (first | ((with_reducible refine HNW.out.mono ?_); rintro e w2 ⟨p, S, E, rfl, hd, hx1, hx2, hx3, hx4⟩; have HDM : Hid (Dsk w w2 p S E 60000 (Dk.new 60000)) := Lib.hid ⟨hd, Int.le_refl (-1), (by show (-1 : Int) ≤ 9223372036854775807; decide)⟩; clear hd hx1 hx2 hx3 hx4))
    have HOP : Hid (Calls Tryd.prog 8 #[.pointer (some ⟨p, 0, none⟩)] w2 (OpenPost w w2 p S E 60000 (0, some (Lg.first 60000), Dk.first 60000))) := Lib.hid (by
      have := open_any HDM.out (by omega) (zeros_by _) HT.out
      rwa [opens_new 60000 (by decide)] at this)
    clear HNW
    go_upto_region 7 with (first | ((with_reducible refine HOP.out.mono ?_); rintro e w3 ⟨lv, rfl, hd3, hk3, hx1, hg⟩; obtain ⟨L, sv, rv, rfl, hL, hl⟩ := hg _ rfl; have HD3 := Lib.hid hd3; have HL3 := Lib.hid hl; clear hd3 hk3 hx1 hg hL hl; dsimp only))
    have H8 : Hid ((w3.alloc (.cells #[.int .u32 1, .string ByteArray.empty, .slice none 0 0] 39)).heap[w3.heap.size]? = some (.cells #[.int .u32 1, .string ByteArray.empty, .slice none 0 0] 39 (0, 0))) := Lib.hid (alloc_blk _ _ _)
    have HL4 := Lib.hid (Lm.below HL3.out (below_new_ (o := .cells #[.int .u32 1, .string ByteArray.empty, .slice none 0 0] 39)))
    have HD4 := Lib.hid (HD3.out.below (below_new_ (o := .cells #[.int .u32 1, .string ByteArray.empty, .slice none 0 0] 39)))
    change Code.wp _ _ _ _ (w3.alloc (.cells #[.int .u32 1, .string ByteArray.empty, .slice none 0 0] 39))
    obtain ⟨g8, hg8⟩ : ∃ x, x = w3.heap.size := ⟨_, rfl⟩
    have hg8l : w.heap.size ≤ g8 := by rw [hg8]; exact HD3.out.m.hb.size
    rw [← hg8] at H8 ⊢
    clear hg8 HL3 HD3 HOP HDM
    generalize w3.alloc (.cells #[.int .u32 1, .string ByteArray.empty, .slice none 0 0] 39) = w4 at H8 HL4 HD4 ⊢
    have HGL := Lib.hid hg8l
    have HFX : Hid (∀ w5, Below w.heap.size w w5 → Calls Tryd.prog 6 #[] w5 (FixPost w5)) := Lib.hid (fun w5 hb => fixed_any hb HT.out)
    go_wp2
    go_loopw [32, 7] (fun i' e' wr => RowsRel w L p S E g8 rows i' e' wr) (fun i' _ _ => rows.length - (intOf i').toNat)
    case atStart => exact ⟨0, Lg.first 60000, Dk.first 60000, sv, rv, .slice none 0 0, Nat.zero_le _, rfl, rfl, HL4, HD4, Lib.hid (Laid.first rfl (by decide) (by decide)), H8, Lib.hid (Kd.R_nil _ _ _ _ _), Lib.hid ⟨Int.le_refl 1, by rw [lay_len]; show 16 + 0 + 0 ≤ 516; decide, Nat.le_refl _⟩⟩
    case round =>
    clear HL4 HD4 H8
    obtain ⟨j, g, d, sv1, rv1, vS, hj, rfl, rfl, HL, HD, HLD, H8, HRS, HBD⟩ := hrel
    have hsl := Kd.R_reads HRS.out
    obtain ⟨sA, sc, rfl, hsc, hsC⟩ := hsl
    rw [List.length_map] at H8 HRS
    clear hsc hsC
    by_cases hlt : j < rows.length
    · obtain ⟨ad, B, cb, rfl, hcellw, hcb0, hCB⟩ := at_row HC.out j hlt
      have hcell : wr.cell? (ad.add j) = some (.slice B (rows.getD j []).length cb) := (HD.out.m.hb.cell (World.block_lt_of_cell? w _ hcellw)).trans hcellw
      clear hcellw
      have hbb := HBY.out _ (getD_mem hlt)
      obtain ⟨b, hb⟩ : ∃ b, b = rows.getD j [] := ⟨_, rfl⟩
      rw [← hb] at hcell hcb0 hCB hbb
      have HBB := Lib.hid hbb
      have HCB := Lib.hid hCB
      clear hb hbb hCB
      by_cases h500 : (500 : Int) < (b.length : Int)
      · go_wp2_with (first | ((with_reducible refine (HFX.out _ HD.out.m.hb).mono ?_); rintro e w5 ⟨rfl, hb5⟩; have HB5 := Lib.hid hb5; clear hb5))
        go_ret
        exact ⟨rfl, HD.out.m.hb.trans (HB5.out.mono HD.out.m.hb.size)⟩
      · by_cases hcm : (j : Int) % (ev : Int) = (ev : Int) - 1
        · have HCM := Lib.hid hcm
          have hcb : ((j : Int) % (ev : Int) == (ev : Int) - 1) = true := by rw [hcm]; exact beq_self_eq_true _
          clear hcm
          go_upto_region 13 with (fail)
          have HO : Hid ((wr.alloc (.cells #[.int .i64 0, .slice B b.length cb, .int .i64 0, .int .i64 0] 41)).heap[wr.heap.size]? = some (.cells #[.int .i64 0, .slice B b.length cb, .int .i64 0, .int .i64 0] 41 (0, 0))) := Lib.hid (alloc_blk _ _ _)
          have HL5 : Hid (LM w (wr.alloc (.cells #[.int .i64 0, .slice B b.length cb, .int .i64 0, .int .i64 0] 41)) L p S E g sv1 rv1) := Lib.hid (Lm.below HL.out below_new_)
          have HD5 := Lib.hid (HD.out.below (below_new_ (o := .cells #[.int .i64 0, .slice B b.length cb, .int .i64 0, .int .i64 0] 41)))
          have H85 := Lib.hid (keep_below (below_new_ (o := .cells #[.int .i64 0, .slice B b.length cb, .int .i64 0, .int .i64 0] 41)) H8.out)
          have HRS5 := Lib.hid (Kd.R_below HRS.out (below_new_ (o := .cells #[.int .i64 0, .slice B b.length cb, .int .i64 0, .int .i64 0] 41)))
          obtain ⟨g12, hg12⟩ : ∃ x, x = wr.heap.size := ⟨_, rfl⟩
          have h12l : w.heap.size ≤ g12 := by rw [hg12]; exact HD.out.m.hb.size
          have H12L := Lib.hid h12l
          rw [← hg12] at HO ⊢
          clear hg12 h12l HL HD H8 HRS
          generalize wr.alloc (.cells #[.int .i64 0, .slice B b.length cb, .int .i64 0, .int .i64 0] 41) = w5 at HO HL5 HD5 H85 HRS5 ⊢
          have o0 := cell_eq (blk_cell HO.out 0) rfl
          have of0 := blk_frozen HO.out 0
          go_upto_region 15 with (fail)
          have HO6 : Hid ((w5.setCell ⟨g12, 0, none⟩ (.int .i64 1)).heap[g12]? = some (.cells #[.int .i64 1, .slice B b.length cb, .int .i64 0, .int .i64 0] 41 (0, 0))) := Lib.hid (by simpa using Go.Joins.block_setCell HO.out (i := 0) (.int .i64 1))
          have HL6 : Hid (LM w (w5.setCell ⟨g12, 0, none⟩ (.int .i64 1)) L p S E g sv1 rv1) := Lib.hid (Lm.set41 HL5.out HO.out 0 _)
          have HD6 := Lib.hid (Dsk.set41 HD5.out HO.out H12L.out 0 (.int .i64 1))
          have H86 : Hid ((w5.setCell ⟨g12, 0, none⟩ (.int .i64 1)).heap[g8]? = _) := Lib.hid (set_other H85.out _ _ (ne_type H85.out HO.out (by decide)))
          have HRS6 := Lib.hid (R_set41 (j := 0) (u := .int .i64 1) HRS5.out HO.out)
          clear o0 of0 HO HL5 HD5 H85 HRS5
          generalize w5.setCell ⟨g12, 0, none⟩ (.int .i64 1) = w6 at HO6 HL6 HD6 H86 HRS6 ⊢
          have o0 := cell_eq (blk_cell HO6.out 0) rfl
          have HCW := Lib.hid (Kd.C_kept_came (S := LS L p S E) (Kd.heap_int .u8) HCB.out HD6.out.m.hb (ls_ge HL6.out HD6.out))
          obtain ⟨g2, d2, hap, hld2, hg2, hs2, hr2⟩ := HLD.out.compact HBB.out (by omega) (by omega) (by have := HBD.out.1; omega)
          have HAP := Lib.hid hap
          have HLD2 := Lib.hid hld2
          have HG2 := Lib.hid hg2
          have HS2 := Lib.hid hs2
          have HR2 := Lib.hid hr2
          clear hap hld2 hg2 hs2 hr2
          have HCA : Hid (Calls Tryd.prog 11 #[.pointer (some ⟨L, 0, none⟩), .slice B b.length cb] w6 (BeginsPost w w6 L p S E 60000 (0, g2, d2))) := Lib.hid (by
            have h := compact_any HL6.out HD6.out HLD.out.fit (by have := HLD.out.half; omega) (by have := HLD.out.half; omega) HCW.out hcb0 HBB.out HT.out
            rw [HAP.out] at h
            exact h)
          go_upto_region 21 with (first | ((with_reducible refine HCA.out.mono ?_); rintro e w7 ⟨rfl, sv7, rv7, hl7, hd7, hk7⟩; dsimp only at hl7 hd7 ⊢; have HL7 := Lib.hid hl7; have HD7 := Lib.hid hd7; have HK7 := Lib.hid (hk7.mono (fun k hk => (Or.inl hk : AS L p S E rv1 k))); clear hl7 hd7 hk7))
          have H87 := Lib.hid (keep_blk (by decide) HL6.out HD6.out HK7.out H86.out)
          have HO7 := Lib.hid (keep_blk (by decide) HL6.out HD6.out HK7.out HO6.out)
          have HRS7 := Lib.hid (keep_rows HL6.out HD6.out HK7.out HRS6.out)
          have HWI : Hid (Calls Tryd.prog 13 #[.agg #[.int .u32 g.gen, .string (str g.snap), .slice sA g.recs.length sc], .agg #[.int .i64 1, .slice B b.length cb, .int .i64 0, .int .i64 0]] w7 (WithPost w7 (IntKind.u32.wrap (g.gen + 1)) (str b) [])) := Lib.hid (by
            have h := with1_any (g := g.gen) (n1 := 0) (n2 := 0) (s := str g.snap) (A := sA) (rc := sc) (bc := cb) (rs := g.recs.map str) (Kd.C_below HCB.out HD7.out.m.hb)
            rw [List.length_map] at h
            exact h)
          clear HCA HCW HL6 HD6 H86 HRS6 o0
          have f0 := blk_frozen H87.out 0
          have f1 := blk_frozen H87.out 1
          have f2 := blk_frozen H87.out 2
          clear f0 f1 f2
          go_wp2_with (first | (refine wpList_load_row rfl 39 (.tmp 8) rfl g8 rfl 39 _ (0, 0) _ H87.out Tryd.underlying39 rfl info39_ ?_) | (refine wpList_load_row rfl 41 (.tmp 12) rfl g12 rfl 41 _ (0, 0) _ HO7.out Tryd.underlying41 rfl info41_ ?_) | ((with_reducible refine HWI.out.mono ?_); rintro e w8 ⟨v8, rfl, hR8, hB8⟩; have HR8 := Lib.hid hR8; have HB8 := Lib.hid hB8; have H88 := Lib.hid (keep_below hB8 H87.out); clear hR8 hB8; obtain ⟨vA, vc, rfl, hx, hy⟩ := Kd.R_reads HR8.out; clear hx hy; have q0 := cell_eq (blk_cell H88.out 0) rfl; have q1 := cell_eq (blk_cell H88.out 1) rfl; have q2 := cell_eq (blk_cell H88.out 2) rfl; have f0 := blk_frozen H88.out 0; have f1 := blk_frozen H88.out 1; have f2 := blk_frozen H88.out 2))
          clear q0 q1 q2 f0 f1 f2 hcb
          have HAL := Lib.hid (set3_all (x := (.int .u32 ((g.gen + 1) % 4294967296))) (y := (.string (str b))) (z := (.slice vA 0 vc)) (Lm.below HL7.out HB8.out) (HD7.out.below HB8.out) H88.out HGL.out)
          have H89 := Lib.hid (set3 (x := (.int .u32 ((g.gen + 1) % 4294967296))) (y := (.string (str b))) (z := (.slice vA 0 vc)) H88.out)
          have HR9 := Lib.hid (R_set3 (x := (.int .u32 ((g.gen + 1) % 4294967296))) (y := (.string (str b))) (z := (.slice vA 0 vc)) (Kd.R_lower HR8.out HD7.out.m.hb.size) H88.out)
          refine ⟨⟨j + 1, g2, d2, sv7, rv7, (.slice vA 0 vc), by omega, by go_num, rfl, Lib.hid HAL.out.1, Lib.hid HAL.out.2, HLD2, ?_, ?_, ?_⟩, by simp [intOf]; omega⟩
          · refine Lib.hid ?_
            have h := H89.out
            have h2 := HBD.out.1
            have h3 := HLD.out.g0
            rw [show (g.gen + 1) % 4294967296 = g.gen + 1 from by omega] at h
            rw [HG2.out, HS2.out, show (g.gen + 1) % 4294967296 = g.gen + 1 from by omega]
            exact h
          · refine Lib.hid ?_
            rw [HR2.out]
            exact HR9.out
          · refine Lib.hid ?_
            have h2 := HBD.out.1
            rw [HG2.out, HS2.out, HR2.out, lay_len]
            exact ⟨by omega, by show 16 + b.length + 0 ≤ _; omega, Nat.zero_le _⟩
        · have HCM := Lib.hid hcm
          have hcb : ((j : Int) % (ev : Int) == (ev : Int) - 1) = false := by rw [Bool.eq_false_iff]; intro h; exact hcm (eq_of_beq h)
          clear hcm
          go_upto_region 13 with (fail)
          have HO : Hid ((wr.alloc (.cells #[.int .i64 0, .slice B b.length cb, .int .i64 0, .int .i64 0] 41)).heap[wr.heap.size]? = some (.cells #[.int .i64 0, .slice B b.length cb, .int .i64 0, .int .i64 0] 41 (0, 0))) := Lib.hid (alloc_blk _ _ _)
          have HL5 : Hid (LM w (wr.alloc (.cells #[.int .i64 0, .slice B b.length cb, .int .i64 0, .int .i64 0] 41)) L p S E g sv1 rv1) := Lib.hid (Lm.below HL.out below_new_)
          have HD5 := Lib.hid (HD.out.below (below_new_ (o := .cells #[.int .i64 0, .slice B b.length cb, .int .i64 0, .int .i64 0] 41)))
          have H85 := Lib.hid (keep_below (below_new_ (o := .cells #[.int .i64 0, .slice B b.length cb, .int .i64 0, .int .i64 0] 41)) H8.out)
          have HRS5 := Lib.hid (Kd.R_below HRS.out (below_new_ (o := .cells #[.int .i64 0, .slice B b.length cb, .int .i64 0, .int .i64 0] 41)))
          obtain ⟨g12, hg12⟩ : ∃ x, x = wr.heap.size := ⟨_, rfl⟩
          have h12l : w.heap.size ≤ g12 := by rw [hg12]; exact HD.out.m.hb.size
          have H12L := Lib.hid h12l
          rw [← hg12] at HO ⊢
          clear hg12 h12l HL HD H8 HRS
          generalize wr.alloc (.cells #[.int .i64 0, .slice B b.length cb, .int .i64 0, .int .i64 0] 41) = w5 at HO HL5 HD5 H85 HRS5 ⊢
          have o0 := cell_eq (blk_cell HO.out 0) rfl
          have of0 := blk_frozen HO.out 0
          have HCW := Lib.hid (Kd.C_kept_came (S := LS L p S E) (Kd.heap_int .u8) HCB.out HD5.out.m.hb (ls_ge HL5.out HD5.out))
          obtain ⟨g2, d2, hap, hld2, hg2, hs2, hr2⟩ := HLD.out.append HBB.out (by omega) (by have := HBD.out.2.1; omega)
          have HAP := Lib.hid hap
          have HLD2 := Lib.hid hld2
          have HG2 := Lib.hid hg2
          have HS2 := Lib.hid hs2
          have HR2 := Lib.hid hr2
          clear hap hld2 hg2 hs2 hr2
          have HCA : Hid (Calls Tryd.prog 10 #[.pointer (some ⟨L, 0, none⟩), .slice B b.length cb] w5 (AppendPost w w5 L p S E 60000 sv1 rv1 (0, g2, d2))) := Lib.hid (by
            have h := append_any HL5.out HD5.out HLD.out.fit HCW.out hcb0 HBB.out HT.out
            rw [HAP.out] at h
            exact h)
          go_upto_region 21 with (first | ((with_reducible refine HCA.out.mono ?_); rintro e w7 ⟨rfl, rv7, hl7, hd7, hk7⟩; dsimp only at hl7 hd7 ⊢; have HL7 := Lib.hid hl7; have HD7 := Lib.hid hd7; have HK7 := Lib.hid hk7; clear hl7 hd7 hk7))
          have H87 := Lib.hid (keep_blk (by decide) HL5.out HD5.out HK7.out H85.out)
          have HO7 := Lib.hid (keep_blk (by decide) HL5.out HD5.out HK7.out HO.out)
          have HRS7 := Lib.hid (keep_rows HL5.out HD5.out HK7.out HRS5.out)
          have HWI : Hid (Calls Tryd.prog 13 #[.agg #[.int .u32 g.gen, .string (str g.snap), .slice sA g.recs.length sc], .agg #[.int .i64 0, .slice B b.length cb, .int .i64 0, .int .i64 0]] w7 (WithPost w7 g.gen (str g.snap) (g.recs.map str ++ [str b]))) := Lib.hid (by
            have h := with0_any (k := 0) (g := g.gen) (n1 := 0) (n2 := 0) (s := str g.snap) (A := sA) (rc := sc) (bc := cb) (rs := g.recs.map str) (by decide) (by have h := (Kd.R_reads' HRS7.out); rw [h.1] at *; exact h.2.2) (by rw [List.length_map]; have := HBD.out.2.2; omega) (Kd.C_below HCB.out HD7.out.m.hb)
            rw [List.length_map] at h
            exact h)
          clear HCA HCW HL5 HD5 H85 HRS5 o0 of0
          have f0 := blk_frozen H87.out 0
          have f1 := blk_frozen H87.out 1
          have f2 := blk_frozen H87.out 2
          clear f0 f1 f2
          go_wp2_with (first | (refine wpList_load_row rfl 39 (.tmp 8) rfl g8 rfl 39 _ (0, 0) _ H87.out Tryd.underlying39 rfl info39_ ?_) | (refine wpList_load_row rfl 41 (.tmp 12) rfl g12 rfl 41 _ (0, 0) _ HO7.out Tryd.underlying41 rfl info41_ ?_) | ((with_reducible refine HWI.out.mono ?_); rintro e w8 ⟨v8, rfl, hR8, hB8⟩; have HR8 := Lib.hid hR8; have HB8 := Lib.hid hB8; have H88 := Lib.hid (keep_below hB8 H87.out); clear hR8 hB8; obtain ⟨vA, vc, rfl, hx, hy⟩ := Kd.R_reads HR8.out; clear hx hy; have q0 := cell_eq (blk_cell H88.out 0) rfl; have q1 := cell_eq (blk_cell H88.out 1) rfl; have q2 := cell_eq (blk_cell H88.out 2) rfl; have f0 := blk_frozen H88.out 0; have f1 := blk_frozen H88.out 1; have f2 := blk_frozen H88.out 2))
          clear q0 q1 q2 f0 f1 f2 hcb
          rw [show (g.recs.map str ++ [str b]).length = g.recs.length + 1 from by simp] at HR8
          have HAL := Lib.hid (set3_all (x := (.int .u32 g.gen)) (y := (.string (str g.snap))) (z := (.slice vA (g.recs.length + 1) vc)) (Lm.below HL7.out HB8.out) (HD7.out.below HB8.out) H88.out HGL.out)
          have H89 := Lib.hid (set3 (x := (.int .u32 g.gen)) (y := (.string (str g.snap))) (z := (.slice vA (g.recs.length + 1) vc)) H88.out)
          have HR9 := Lib.hid (R_set3 (x := (.int .u32 g.gen)) (y := (.string (str g.snap))) (z := (.slice vA (g.recs.length + 1) vc)) (Kd.R_lower HR8.out HD7.out.m.hb.size) H88.out)
          refine ⟨⟨j + 1, g2, d2, sv1, rv7, (.slice vA (g.recs.length + 1) vc), by omega, by go_num, rfl, Lib.hid HAL.out.1, Lib.hid HAL.out.2, HLD2, ?_, ?_, ?_⟩, by simp [intOf]; omega⟩
          · refine Lib.hid ?_
            rw [HG2.out, HS2.out]
            exact H89.out
          · refine Lib.hid ?_
            rw [HR2.out, List.map_append]
            exact HR9.out
          · refine Lib.hid ?_
            have h2 := HBD.out
            rw [HG2.out, HS2.out, HR2.out, lay_snoc, List.length_append, List.length_singleton]
            exact ⟨by omega, by omega, by omega⟩
    · have HOP2 : Hid (Calls Tryd.prog 8 #[.pointer (some ⟨p, 0, none⟩)] wr (OpenPost w wr p S E 60000 (0, some g, d))) := Lib.hid (by
        have h := open_any HD.out (by omega) HLD.out.by_ HT.out
        rw [HLD.out.opens rfl (by decide)] at h
        exact h)
      go_upto_region 24 with (first | ((with_reducible refine HOP2.out.mono ?_); rintro e w5 ⟨lv, rfl, hd5, hk5, hx1, hg⟩; obtain ⟨L2, sv2, rv2, rfl, hL2, hl2⟩ := hg _ rfl; have HD5 := Lib.hid hd5; have HL52 : Hid (LM w w5 L2 p S E g sv2 rv2) := Lib.hid hl2; have HK5 := Lib.hid hk5; clear hd5 hk5 hx1 hg hL2 hl2; dsimp only))
      have HL5 : Hid (LM w w5 L p S E g sv1 rv1) := Lib.hid (Lm.keptD HL.out HD.out.m HK5.out)
      have HKA := Lib.hid (HK5.out.mono (fun k hk => (Or.inl (Or.inl hk) : AS L p S E rv1 k)))
      have H85 := Lib.hid (keep_blk (by decide) HL.out HD.out HKA.out H8.out)
      have HRS5 := Lib.hid (keep_rows HL.out HD.out HKA.out HRS.out)
      have HSA : Hid (∀ L0 sv0 rv0, LM w w5 L0 p S E g sv0 rv0 → ∀ W, Below w5.heap.size w5 W → Calls Tryd.prog 14 #[.agg #[.int .u32 g.gen, .string (str g.snap), .slice sA g.recs.length sc], .pointer (some ⟨L0, 0, none⟩)] W fun e w' => e = .returned (.bool true) ∧ Below W.heap.size W w') := Lib.hid (by
        intro L0 sv0 rv0 h0 W hW
        have hl := HLD.out
        have hb := HBD.out
        have hrr := Kd.R_reads' (Kd.R_below HRS5.out hW)
        have h := same_any (g := g.gen) (snap' := g.snap) (recs' := g.recs) (rc := sc) (A := sA) (Lm.below h0 hW) (by have := hl.l1; omega) (fun r hr => by have := hl.l2 r hr; omega) (by omega) (by omega) hl.b1 hl.b1 hl.b2 hl.b2 (by have h3 := hrr.2.2; rw [List.length_map] at h3; exact h3) hrr.2.1
        rw [decide_eq_true ⟨rfl, rfl, rfl⟩] at h
        exact h)
      clear HL HD H8 HRS HOP2
      have HFX5 := Lib.hid (HFX.out _ HD5.out.m.hb)
      go_wp2_with (first | ((with_reducible refine HFX5.out.mono ?_); rintro e w6 ⟨rfl, hb6⟩; have HB6 := Lib.hid hb6; have H86 := Lib.hid (keep_below hb6 H85.out); clear hb6) | ((with_reducible refine gate_ (.load 39 (.tmp 8)) rfl ?_); (try (refine gate_guard (by rfl) ?_; dsimp only)); refine wpList_load_row rfl 39 (.tmp 8) rfl g8 rfl 39 _ (0, 0) _ H86.out Tryd.underlying39 rfl info39_ ?_) | ((with_reducible refine gate_ (.load 39 (.tmp 8)) rfl ?_); (try (refine gate_guard (by rfl) ?_; dsimp only)); refine wpList_load_row rfl 39 (.tmp 8) rfl g8 rfl 39 _ (0, 0) _ H87.out Tryd.underlying39 rfl info39_ ?_) | ((with_reducible refine (HSA.out _ _ _ HL5.out _ HB6.out).mono ?_); rintro e w7 ⟨rfl, hb7⟩; have HB7 := Lib.hid (HB6.out.trans (hb7.mono HB6.out.size)); have H87 := Lib.hid (keep_below hb7 H86.out); clear hb7) | ((with_reducible refine (HSA.out _ _ _ HL52.out _ HB7.out).mono ?_); rintro e w8 ⟨rfl, hb8⟩; have HB8 := Lib.hid (HB7.out.trans (hb8.mono HB7.out.size)); clear hb8))
      go_ret
      exact ⟨rfl, HD5.out.m.hb.trans (HB8.out.mono HD5.out.m.hb.size)⟩
end Go.Proofs.YtndelndgioojgaaDoor.Own
namespace Go.Proofs.YtndelndgioojgaaDoor.Own
open Go.RowKit Go.Proofs.YtndelndgioojgaaDoorW.PrintWords Go.Proofs.YtndelndgioojgaaDoorW.PrintLast Go.Proofs.YtndelndgioojgaaDoorW.PrintMore
set_option linter.unusedVariables false
set_option linter.unusedSimpArgs false
/-- A row of rows that came in, as the walk reads it. -/
theorem rows_C {w : World} {a : Addr} {len cap : Nat} {A : Nat → Option Addr} {L C : Nat → Nat} {Z : Nat → List Int} (hl : len ≤ cap) (hm : cap ≤ maxLen)
    (h : ∀ r, r < cap → w.cell? (a.add r) = some (.slice (A r) (L r) (C r)) ∧ L r ≤ C r ∧ C r ≤ maxLen ∧ (Z r).length = C r ∧ (A r = none → C r = 0) ∧ ∀ a', A r = some a' → ∀ c, c < C r → w.cell? (a'.add c) = some (.int .u8 ((Z r).getD c 0))) :
    Kd.C (Kd.slice 5 (Kd.int .u8)) w (some a) ((List.range len).map fun r => (Z r).take (L r)).length ((List.range len).map fun r => (Z r).take (L r)) := by
  have hmax : maxLen ≤ 9223372036854775807 := by decide
  refine ⟨rfl, by simp only [List.length_map, List.length_range]; omega, fun _ => ⟨a, rfl, fun j p hj => ?_⟩⟩
  obtain ⟨hj1, hj2⟩ := List.getElem?_eq_some_iff.1 hj
  simp only [List.length_map, List.length_range] at hj1
  simp only [List.getElem_map, List.getElem_range] at hj2
  subst hj2
  obtain ⟨e1, e2, e3, e4, e5, e6⟩ := h j (by omega)
  have hp : ((Z j).take (L j)).length = L j := by rw [List.length_take]; omega
  refine ⟨[.slice (A j) (L j) (C j)], rfl, ⟨A j, C j, by rw [hp], by rw [hp]; exact e2, ?_⟩, fun i u hu => ?_⟩
  · refine Kd.C_of_reads (d := (0 : Int)) (h1 := fun _ => rfl) ⟨rfl, by rw [hp]; omega, fun hn => ?_⟩
    rw [hp] at hn
    cases hA : A j with
    | none => have := e5 hA; omega
    | some ad =>
      refine ⟨ad, rfl, fun i hi => ?_⟩
      rw [hp] at hi
      rw [e6 ad hA i (by omega)]
      congr 2
      rw [List.getD_eq_getElem?_getD, List.getD_eq_getElem?_getD, List.getElem?_take, if_pos hi]
  · have : i = 0 := by
      obtain ⟨hi, _⟩ := List.getElem?_eq_some_iff.1 hu
      simpa using hi
    subst this
    obtain rfl : Value.slice (A j) (L j) (C j) = u := by simpa using hu
    show w.cell? (a.add (j * 1 + 0)) = _
    rw [Nat.mul_one, Nat.add_zero]
    exact e1
theorem rows_wf {len : Nat} {L : Nat → Nat} {Z : Nat → List Int} (h : ∀ r, r < len → ∀ n ∈ Z r, (Lit.int .u8 n).wf = true) : ∀ p ∈ (List.range len).map fun r => (Z r).take (L r), ∀ x ∈ p, (Lit.int .u8 x).wf = true := by
  intro p hp x hx
  obtain ⟨r, hr, rfl⟩ := List.mem_map.1 hp
  exact h r (List.mem_range.1 hr) x (List.mem_of_mem_take hx)
theorem walRows_row (a1 : Int) (A : Option Addr) (c : Nat) (l : List (List Int)) (w : World) (hC : Kd.C (Kd.slice 5 (Kd.int .u8)) w A l.length l) (hc : l.length ≤ c) (hw : ∀ p ∈ l, ∀ x ∈ p, (Lit.int .u8 x).wf = true) (w1 : (Lit.int .u8 a1).wf = true) (HT : Aside0 (Tbl w)) :
    Calls Tryd.prog 4 #[.slice A l.length c, .int .u8 a1] w fun e w' => e = .returned (.bool true) ∧ Below w.heap.size w w' := by
  have h := wf_u8 w1
  exact walRows_any h.1 h.2 hC hc (fun r hr x hx => wf_u8 (hw r hr x hx)) HT.out
end Go.Proofs.YtndelndgioojgaaDoor.Own
