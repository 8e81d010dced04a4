import Derived.Test.YtndelndgioojgaaDoorWb4
namespace Go.Proofs.YtndelndgioojgaaDoor.Own
open Go.RowKit Go.Proofs.YtndelndgioojgaaDoorW.PrintWords Go.Proofs.YtndelndgioojgaaDoorW.PrintLast Go.Proofs.YtndelndgioojgaaDoorW.PrintMore
set_option linter.unusedVariables false
set_option linter.unusedSimpArgs false
/-- The frames of a generation that stand one behind the other. -/
def readAll (b : List Int) (gen : Int) : Nat → Nat → List (List Int) → Nat × List (List Int)
  | 0, e, rs => (e, rs)
  | k + 1, e, rs => if Good (b.drop e) gen ((rs.length : Int) + 1) then readAll b gen k (e + ((get4 (b.drop e)).toNat + 16)) (rs ++ [payload (b.drop e)]) else (e, rs)
/-- Blocks that are neither a log's nor a row of records, and all that lie below L, are as they were. -/
def KS (L : Nat) (w : World) (k : Nat) : Prop := L ≤ k ∧ ∃ cs t, w.heap[k]? = some (.cells cs t (0, 0)) ∧ (t = 23 ∨ t = 56)
def KT (L : Nat) (w w' : World) : Prop := Kept w w' (KS L w)
theorem KT.trans {L : Nat} {w w1 w2 : World} (h : KT L w w1) (k : KT L w1 w2) : KT L w w2 := by
  refine Kept.then_ h k (fun j hj => ?_)
  by_cases hlt : j < w.heap.size
  · by_cases hs : KS L w j
    · exact .inl hs
    · obtain ⟨hle, cs, t, h1, h2⟩ := hj
      exact absurd ⟨hle, cs, t, (h.2 j hlt hs).symm.trans h1, h2⟩ hs
  · exact .inr (by omega)
theorem KT.refl (L : Nat) (w : World) : KT L w w := Kept.refl _ _
theorem KT.below {L : Nat} {w w1 w2 : World} (h : KT L w w1) (hb : Below w1.heap.size w1 w2) : KT L w w2 := Kept.below h hb
theorem KT.setL {w w1 : World} {L j : Nat} {cs : Array Value} (h : KT L w w1) (hL : w1.heap[L]? = some (.cells cs 56 (0, 0))) (u : Value) : KT L w (w1.setCell ⟨L, j, none⟩ u) :=
  h.trans (Kept.setCell (Kept.refl _ _) (.inl ⟨Nat.le_refl _, cs, 56, hL, .inr rfl⟩) u)
theorem KT.grown {L : Nat} {w w1 w2 : World} {row : Option Nat} (h : KT L w w1) (hg : w1.grownBy w2 row) (hr : ∀ k, row = some k → L ≤ k ∧ ∃ cs, w1.heap[k]? = some (.cells cs 23 (0, 0))) : KT L w w2 :=
  h.trans (Kept.of_grown hg (Kept.refl _ _) (fun k hk => by obtain ⟨hle, cs, hc⟩ := hr k hk; exact .inl ⟨hle, cs, 23, hc, .inl rfl⟩))
theorem Dsk.kt {w0 w w1 : World} {p S E n : Nat} {d : Dk} (h : Dsk w0 w p S E n d) {L : Nat} (hk : KT L w w1) (hb : Below w0.heap.size w0 w1) : Dsk w0 w1 p S E n d :=
  ⟨h.m.kept hk hb (fun k hx => by
    obtain ⟨_, cs, t, h1, h2⟩ := hx
    refine ⟨?_, ?_, ?_⟩
    · rintro rfl; rw [h.m.hp] at h1; rcases h2 with rfl | rfl <;> simp at h1
    · rintro rfl; rw [h.m.hS] at h1; rcases h2 with rfl | rfl <;> simp at h1
    · rintro rfl; rw [h.m.hE] at h1; rcases h2 with rfl | rfl <;> simp at h1), h.f1, h.f2⟩
/-- Where a log's last record ends, out of the world. -/
def endOf (w : World) (L : Nat) : Nat := match w.cell? ⟨L, 3, none⟩ with
  | some (.int _ n) => n.toNat
  | _ => 0
theorem endOf_eq {w0 w : World} {L p S E e : Nat} {half frm gen : Int} {sv rv : Value} {snap : List Int} {recs : List (List Int)} {down : Bool} (h : Lm w0 w L p S E half frm (e : Int) gen sv rv snap recs down) : endOf w L = e := by
  unfold endOf
  rw [cell_eq (blk_cell h.hL 3) rfl]
  exact Int.toNat_natCast e
section
variable {w0 w2 w3 : World} {L p S E n : Nat} {half frm end_ gen : Int} {sv rv rv' : Value} {snap : List Int} {rs rs' : List (List Int)} {down : Bool} {d : Dk}
theorem grow_L (h : Lm w0 w2 L p S E half frm end_ gen sv rv snap rs down) (hg : w2.grownBy w3 rv.ownBlock) : w3.heap[L]? = some (.cells #[.pointer (some ⟨p, 0, none⟩), .int .i64 half, .int .i64 frm, .int .i64 end_, .int .u32 gen, sv, rv, .bool down] 56 (0, 0)) := by
  obtain ⟨inn, hown, _⟩ := h.hr.2
  exact (hg.block L (heap_lt h.hL) (own_ne hown h.hL (by decide))).trans h.hL
theorem grown_Lm (h : Lm w0 w2 L p S E half frm end_ gen sv rv snap rs down) (hg : w2.grownBy w3 rv.ownBlock) (hR : Kd.R (Kd.slice 5 (Kd.int .u8)) 23 w3 w0.heap.size (fun k => k ≠ S ∧ k ≠ E) rv' rs') : Lm w0 (w3.setCell ⟨L, 6, none⟩ rv') L p S E half frm end_ gen sv rv' snap rs' down := by
  have hL := grow_L h hg
  obtain ⟨inn, hown, _⟩ := h.hr.2
  exact ⟨by simpa using Go.Joins.block_setCell hL (i := 6) rv', R_setL (Kd.R_grown2 h.hs rfl hg (row_ne hown h.hs)) hL no56a, R_setL hR hL no56b, h.nL⟩
theorem grown_Dsk (h : Lm w0 w2 L p S E half frm end_ gen sv rv snap rs down) (hd : Dsk w0 w2 p S E n d) (hg : w2.grownBy w3 rv.ownBlock) (hb : Below w0.heap.size w0 w3) : Dsk w0 (w3.setCell ⟨L, 6, none⟩ rv') p S E n d := by
  have hL := grow_L h hg
  obtain ⟨inn, hown, _⟩ := h.hr.2
  have h5 : Dsk w0 w3 p S E n d := ⟨⟨(hg.block p (heap_lt hd.m.hp) (own_ne hown hd.m.hp (by decide))).trans hd.m.hp, (hg.block S (heap_lt hd.m.hS) (own_ne hown hd.m.hS (by decide))).trans hd.m.hS, (hg.block E (heap_lt hd.m.hE) (own_ne hown hd.m.hE (by decide))).trans hd.m.hE, hd.m.lS, hd.m.lE, hb, hd.m.np, hd.m.nS, hd.m.nE, hd.m.SE, hd.m.hn⟩, hd.f1, hd.f2⟩
  exact h5.setL hL h.nL _ _
end
def ReadRel (w0 w : World) (L p S E n : Nat) (half frm gen : Int) (sv : Value) (snap : List Int) (down : Bool) (d : Dk) (b : List Int) (R : Nat × List (List Int)) (wr : World) : Prop :=
  ∃ (e : Nat) (rs : List (List Int)) (rv : Value) (k : Nat), Hid (Lm w0 wr L p S E half frm (e : Int) gen sv rv snap rs down) ∧ Hid (Dsk w0 wr p S E n d) ∧ Hid (KT L w wr) ∧ e ≤ b.length ∧ b.length < e + k ∧ rs.length ≤ e ∧ Hid (∀ k, rv.ownBlock = some k → L ≤ k) ∧ Hid (readAll b gen k e rs = R)
def ReadsPost (w0 w : World) (L p S E n : Nat) (half frm gen : Int) (sv : Value) (snap : List Int) (down : Bool) (d : Dk) (R : Nat × List (List Int)) (e : Ending) (w' : World) : Prop :=
  e = .returned (.tuple #[]) ∧ ∃ rv', Lm w0 w' L p S E half frm (R.1 : Int) gen sv rv' snap R.2 down ∧ Dsk w0 w' p S E n d ∧ KT L w w'
set_option maxHeartbeats 4000000 in
set_option maxRecDepth 100000 in
theorem reads_any {w0 w : World} {L p S E n e0 : Nat} {half frm gen : Int} {sv rv : Value} {snap : List Int} {recs : List (List Int)} {down : Bool} {d : Dk} {ad : Addr} {c : Nat} {b : List Int}
    (hl : Lm w0 w L p S E half frm (e0 : Int) gen sv rv snap recs down) (hd : Dsk w0 w p S E n d) (hC : ∀ W, KT L w W → Kd.C (Kd.int .u8) W (some ad) b.length b) (hc : b.length ≤ c) (hcm : c ≤ 9223372036854775807) (hby : By b) (hbl : b.length ≤ 1000000) (he0 : e0 ≤ b.length) (hr0 : recs.length ≤ e0) (hg0 : 1 ≤ gen) (hg1 : gen ≤ 4294967295) (hov : ∀ k, rv.ownBlock = some k → L ≤ k) (ht : Tbl w0) :
    Calls Tryd.prog 24 #[.pointer (some ⟨L, 0, none⟩), .slice (some ad) b.length c] w (ReadsPost w0 w L p S E n half frm gen sv snap down d (readAll b gen (b.length + 1) e0 recs)) := by
  obtain ⟨R, hR⟩ : ∃ R, readAll b gen (b.length + 1) e0 recs = R := ⟨_, rfl⟩
  rw [hR]
  have HOV := Lib.hid hov
  have HL := Lib.hid hl
  have HD := Lib.hid hd
  have HC := Lib.hid hC
  have HT := Lib.hid ht
  have HRR := Lib.hid hR
  have HBY := Lib.hid hby
  clear hl hd hC ht hR hby hov
  go_enter Tryd.func24, Tryd.ntmps24
  go_wp2
  go_loopw [6] (fun v6 wr => ReadRel w0 w L p S E n half frm gen sv snap down d b R wr) (fun _ wr => b.length + 1 - endOf wr L)
  case atStart => exact ⟨e0, recs, rv, b.length + 1, HL, HD, Lib.hid (KT.refl _ _), he0, by omega, hr0, HOV, HRR⟩
  case round =>
  obtain ⟨e, rs, rv1, k, HL1, HD1, HK1, he, hk, hrs, HO1, HQ⟩ := hrel
  have HC1 := Lib.hid (HC.out wr HK1.out)
  have HT1 := Lib.hid (tbl_below HT.out HD1.out.hb)
  have hU : U ((rs.length : Int) + 1) := ⟨by omega, by omega⟩
  have HE1 := Lib.hid (endOf_eq HL1.out)
  have hGf := Get_f (k := 2) (Nat.le_refl 2) (by_drop HBY.out e) (by rw [List.length_drop]; omega) gen ((rs.length : Int) + 1)
  by_cases hgd : Good (b.drop e) gen ((rs.length : Int) + 1)
  · have hg2 := hgd.2.1
    have hg3 := hgd.2.2.2.2.2.1
    have hn0 := (split4 (by_drop HBY.out e) (by omega)).2.1
    rw [List.length_drop] at hg2 hg3
    have hne : ¬ c = e := by omega
    obtain ⟨pl, hpl⟩ : ∃ x, x = payload (b.drop e) := ⟨_, rfl⟩
    obtain ⟨nn, hnn⟩ : ∃ x : Nat, x = (get4 (b.drop e)).toNat + 16 := ⟨_, rfl⟩
    have hpl1 : pl.length + 16 = nn := by
      rw [hpl, hnn]
      unfold payload
      rw [List.length_drop, List.length_take, List.length_drop]
      omega
    have hnn1 : get4 (b.drop e) + 16 = (nn : Int) := by omega
    rw [if_pos hgd, show (List.take (12 + (get4 (b.drop e)).toNat) (b.drop e)).drop 12 = pl from hpl.symm, hnn1] at hGf
    have HQ2 : Hid (readAll b gen (k - 1) (e + nn) (rs ++ [pl]) = R) := Lib.hid (by
      have := HQ.out
      obtain ⟨k', rfl⟩ : ∃ k', k = k' + 1 := ⟨k - 1, by omega⟩
      unfold readAll at this
      rw [if_pos hgd, ← hnn, ← hpl] at this
      exact this)
    have HNN := Lib.hid hnn
    have HGF := Lib.hid hGf
    have HGD : Hid (nn + e ≤ b.length ∧ 16 ≤ nn ∧ pl.length + 16 = nn) := Lib.hid (by refine ⟨?_, ?_, hpl1⟩ <;> omega)
    clear hgd hg2 hg3 hn0 hpl hnn hpl1 hnn1 hGf
    go_wp2
    refine rd0a_wp HL1 HD1 HC1 HT1 hc hcm he (by omega) hne HGF (Lib.hid fun c a N v w h => by cases N <;> exact h) (Lib.hid ?_)
    intro d7 d8 d9 d10 d11 d12 d13 d14 d15 d16 d17 d18 d19 d20 d21 d22 d23 d24 d25 d26 d27 d28 Av cv w2 HL2 HD2 HB2 HR2
    have HKr := Lib.hid (KT.below (KT.refl L wr) HB2.out)
    have HV2 : Hid (Kd.R (Kd.int .u8) 5 w2 w0.heap.size (fun k => (k ≠ S ∧ k ≠ E) ∧ some k ≠ rv1.ownBlock) (.slice Av pl.length cv) pl) := Lib.hid (by
      have h1 := heap_lt HD1.out.m.hS
      have h2 := heap_lt HD1.out.m.hE
      refine Kd.R_lower (Kd.R_mono (Kd.R_bound HR2.out) (fun k hk => ?_)) HD1.out.m.hb.size
      have h3 := hk.2.1
      refine ⟨by omega, fun e => ?_⟩
      have := own_lt' HL1.out.hr e.symm
      omega)
    obtain ⟨rA, rc, rfl, _, hrC⟩ := Kd.R_reads HL2.out.hr
    clear hrC
    have q6 := cell_eq (blk_cell HL2.out.hL 6) rfl
    clear HR2 HL1 HD1 HC1 HT1 HGF HQ
    have y6 := blk_frozen HL2.out.hL 6
    go_upto_region 3 with (((with_reducible refine gate_builtin (b := .append) (xs := #[.tmp 35, .tmp 37]) rfl ?_); (try (refine gate_guard (by rfl) ?_; dsimp only)); at_builtin; refine Kd.R_append (W := w2) (w0 := w0) (Kd.slice 5 (Kd.int .u8)) w0.heap.size rfl (.tmp 35) (.tmp 37) 36 23 (.slice none 0 0) 24 rfl Tryd.underlying36 info23_ rfl (by decide) (by decide) (.slice rA rs.length rc) rs pl [.slice Av pl.length cv] (fun k => k ≠ S ∧ k ≠ E) (fun k => (k ≠ S ∧ k ≠ E) ∧ some k ≠ (Value.slice rA rs.length rc).ownBlock) rfl rfl ⟨_, rfl, HV2.out⟩ (fun _ h => h) (fun k hk => by have h1 := heap_lt HD2.out.m.hS; have h2 := heap_lt HD2.out.m.hE; omega) HL2.out.hr HD2.out.m.hb HD2.out.m.hb.size (by omega) ?_; intro v1 w3 hR3 hb3 hg3 hat3; obtain ⟨rs2, hrs2⟩ : ∃ x, x = rs ++ [pl] := ⟨_, rfl⟩; rw [← hrs2] at hR3; have HRS2 := Lib.hid hrs2; clear hrs2; obtain ⟨A1, c1, rfl, _, _⟩ := Kd.R_reads hR3; have HO3 : Hid (∀ k, (Value.slice A1 rs2.length c1).ownBlock = some k → L ≤ k) := Lib.hid (fun k hk => by have h1 := heap_lt HL2.out.hL; exact hat3.elim (fun h => HO1.out k (h.symm.trans hk)) (fun ⟨b', h, hle⟩ => by have h2 : b' = k := Option.some.inj (h.symm.trans hk); omega)); have HG3 := Lib.hid hg3; have HR3 := Lib.hid hR3; have HB3 := Lib.hid hb3; clear hR3 hb3 hg3 hat3; have HLb : Hid (w3.heap[L]? = some (.cells #[.pointer (some ⟨p, 0, none⟩), .int .i64 half, .int .i64 frm, .int .i64 (e : Int), .int .u32 gen, sv, .slice rA rs.length rc, .bool down] 56 (0, 0))) := Lib.hid (grow_L HL2.out HG3.out); have q6' := cell_eq (blk_cell HLb.out 6) rfl; have y6' := blk_frozen HLb.out 6))
    have HL4 := Lib.hid (grown_Lm HL2.out HG3.out HR3.out)
    have HD4 := Lib.hid (grown_Dsk (rv' := .slice A1 rs2.length c1) HL2.out HD2.out HG3.out HB3.out)
    have HK4 : Hid (KT L w (w3.setCell ⟨L, 6, none⟩ (.slice A1 rs2.length c1))) := Lib.hid ((((HK1.out.trans HKr.out).grown HG3.out (fun k hk => by obtain ⟨inn, ho, _⟩ := HL2.out.hr.2; exact ⟨HO1.out k hk, own_typed ho k hk⟩))).setL HLb.out _)
    clear q6 y6 q6' y6' HL2 HD2 HG3 HR3 HB3 HV2 HK1 HKr HB2
    generalize w3.setCell ⟨L, 6, none⟩ (.slice A1 rs2.length c1) = w4 at HL4 HD4 HK4 ⊢
    clear HLb
    have q3 := cell_eq (blk_cell HL4.out.hL 3) rfl
    have y3 := blk_frozen HL4.out.hL 3
    have hw : wrap64 ((e : Int) + (nn : Int)) = ((e + nn : Nat) : Int) := by have := HGD.out; unfold wrap64; omega
    go_wp2
    clear hw
    have hcast : (e : Int) + (nn : Int) = ((e + nn : Nat) : Int) := by omega
    rw [hcast]
    have hg := HGD.out
    have hq5 : Hid (readAll b gen (k - 1) (e + nn) rs2 = R) := Lib.hid (by have h := HQ2.out; rw [← HRS2.out] at h; exact h)
    have hg1 : e + nn ≤ b.length := by omega
    have hg2 : b.length < e + nn + (k - 1) := by omega
    have hg3 : rs2.length ≤ e + nn := by
      have : rs2.length = rs.length + 1 := by rw [HRS2.out, List.length_append]; rfl
      omega
    have hg4 : b.length + 1 - (e + nn) < b.length + 1 - e := by omega
    have hL5 := HL4.out.setEnd ((e + nn : Nat) : Int)
    have hL6 := Lib.hid hL5
    have hD6 := Lib.hid (HD4.out.setL HL4.out.hL HL4.out.nL 3 (.int .i64 ((e + nn : Nat) : Int)))
    have hK6 := Lib.hid (HK4.out.setL (j := 3) HL4.out.hL (.int .i64 ((e + nn : Nat) : Int)))
    refine ⟨⟨e + nn, rs2, .slice A1 rs2.length c1, k - 1, hL6, hD6, hK6, hg1, hg2, hg3, HO3, hq5⟩, ?_⟩
    rw [endOf_eq hL5, HE1.out]
    exact hg4
  · rw [if_neg hgd] at hGf
    have HQ2 : Hid (R = (e, rs)) := Lib.hid (by
      have := HQ.out
      obtain ⟨k', rfl⟩ : ∃ k', k = k' + 1 := ⟨k - 1, by omega⟩
      unfold readAll at this
      rw [if_neg hgd] at this
      exact this.symm)
    have HGF := Lib.hid hGf
    clear hgd hGf HQ
    by_cases hce : c = e
    · subst hce
      go_wp2
      refine rd0b_wp HL1 HD1 HC1 HT1 hc hcm he (by omega) rfl HGF (Lib.hid fun c a N v w h => by cases N <;> exact h) (Lib.hid ?_)
      intro d7 d8 d9 d10 d11 d12 d13 d14 d15 d16 d17 d18 d19 d20 d21 d22 d23 d24 d25 d26 d27 d28 Av cv w2 HL2 HD2 HB2 HR2
      go_wp2
      first | go_end0 | refine bodyPost_ret (results_none rfl _ _ _) rfl ?_
      refine ⟨rfl, rv1, ?_, HD2.out, HK1.out.below HB2.out⟩
      rw [HQ2.out]
      exact HL2.out
    · go_wp2
      refine rd0a_wp HL1 HD1 HC1 HT1 hc hcm he (by omega) hce HGF (Lib.hid fun c a N v w h => by cases N <;> exact h) (Lib.hid ?_)
      intro d7 d8 d9 d10 d11 d12 d13 d14 d15 d16 d17 d18 d19 d20 d21 d22 d23 d24 d25 d26 d27 d28 Av cv w2 HL2 HD2 HB2 HR2
      go_wp2
      first | go_end0 | refine bodyPost_ret (results_none rfl _ _ _) rfl ?_
      refine ⟨rfl, rv1, ?_, HD2.out, HK1.out.below HB2.out⟩
      rw [HQ2.out]
      exact HL2.out
end Go.Proofs.YtndelndgioojgaaDoor.Own
