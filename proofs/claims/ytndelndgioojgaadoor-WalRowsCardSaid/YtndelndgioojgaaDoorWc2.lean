import Derived.Test.YtndelndgioojgaaDoorWc1
namespace Go.Proofs.YtndelndgioojgaaDoor.Own
open Go.RowKit Go.Proofs.YtndelndgioojgaaDoorW.PrintWords Go.Proofs.YtndelndgioojgaaDoorW.PrintLast Go.Proofs.YtndelndgioojgaaDoorW.PrintMore
set_option linter.unusedVariables false
set_option linter.unusedSimpArgs false
/-- What a log has while it looks at the halves. -/
structure Seen (h : Nat) (g : Lg) : Prop where
  half : g.half = h
  recs : g.recs = []
  down : g.down = false
  g0 : 0 ≤ g.gen
  g1 : g.gen ≤ 4294967295
  nil : g.gen = 0 → g = Lg.new h
  frm : g.gen ≠ 0 → g.frm = placeP h g.gen
  e0 : g.gen ≠ 0 → 16 ≤ g.end_
  e1 : g.gen ≠ 0 → g.end_ ≤ h
theorem Seen.new (h : Nat) : Seen h (Lg.new h) := ⟨rfl, rfl, rfl, Int.le_refl 0, (by decide : (0:Int) ≤ 4294967295), fun _ => rfl, fun h => absurd rfl h, fun h => absurd rfl h, fun h => absurd rfl h⟩
theorem Seen.looks {h : Nat} {g : Lg} (hg : Seen h g) {b : List Int} (hby : By b) (hb : b.length = h) (at' : Int) : Seen h (g.looks b at') := by
  unfold Lg.looks
  split
  · exact hg
  · split
    · exact hg
    · split
      · rename_i h1 h2 h3
        have hU := genOf_U hby
        have h5 := (split4 hby (by have := h3.2.1; omega)).2
        have h6 := h3.2.2.2.2.2.1
        have := hg.g0
        refine ⟨hg.half, hg.recs, hg.down, hU.1, hU.2, fun h => ?_, fun _ => ?_, fun _ => ?_, fun _ => ?_⟩
        · exact absurd h h3.1
        · show at' = placeP h (genOf b)
          rw [hg.half] at h2
          exact (Classical.not_not.1 h2).symm
        · show 16 ≤ get4 b + 16
          omega
        · show get4 b + 16 ≤ h
          omega
      · exact hg
theorem Seen.seen {h : Nat} {b : List Int} (hby : By b) (hb : b.length = 2 * h) : Seen h (Lg.seen h b) := by
  unfold Lg.seen
  exact ((Seen.new h).looks (by_take hby _) (by rw [List.length_take]; omega) 0).looks (by_drop hby _) (by rw [List.length_drop]; omega) h
theorem readAll_bd {b : List Int} {gen : Int} (hby : By b) : ∀ (k e : Nat) (rs : List (List Int)), e ≤ b.length → rs.length ≤ e → e ≤ (readAll b gen k e rs).1 ∧ (readAll b gen k e rs).1 ≤ b.length ∧ (readAll b gen k e rs).2.length ≤ (readAll b gen k e rs).1
  | 0, e, rs, h1, h2 => ⟨Nat.le_refl _, h1, h2⟩
  | k + 1, e, rs, h1, h2 => by
    unfold readAll
    split
    · rename_i hg
      have h3 := hg.2.1
      have h4 := hg.2.2.2.2.2.1
      rw [List.length_drop] at h3 h4
      have h5 := (split4 (by_drop hby e) (by rw [List.length_drop]; omega)).2
      have := readAll_bd (gen := gen) hby k (e + ((get4 (b.drop e)).toNat + 16)) (rs ++ [payload (b.drop e)]) (by omega) (by simp; omega)
      exact ⟨by omega, this.2⟩
    · exact ⟨Nat.le_refl _, h1, h2⟩
def OpenPost (w0 w : World) (p S E n : Nat) (r : Int × Option Lg × Dk) (e : Ending) (w' : World) : Prop :=
  ∃ lv, e = .returned (.tuple #[lv, .int .i64 r.1]) ∧ Dsk w0 w' p S E n r.2.2 ∧ Kept w w' (DS p S E) ∧ (r.2.1 = none → lv = .pointer none) ∧
    ∀ g, r.2.1 = some g → ∃ L sv rv, lv = .pointer (some ⟨L, 0, none⟩) ∧ w.heap.size ≤ L ∧ LM w0 w' L p S E g sv rv
theorem ls_back {w w1 w2 : World} {L p S E : Nat} (h : Kept w w1 (DS p S E)) (k : Kept w1 w2 (LS L p S E)) (hL : w.heap.size ≤ L) : Kept w w2 (DS p S E) :=
  h.then_ k (fun j hj => hj.elim .inl (fun e => .inr (by omega)))
theorem kt_back {w w1 w2 : World} {L p S E : Nat} (h : Kept w w1 (DS p S E)) (k : KT L w1 w2) (hL : w.heap.size ≤ L) : Kept w w2 (DS p S E) :=
  h.then_ k (fun j hj => .inr (by have := hj.1; omega))
theorem begins_err (g : Lg) (d : Dk) (gen : Int) (b : List Int) : (g.begins d gen b).1 = 0 ∨ (g.begins d gen b).1 = 12 := by
  unfold Lg.begins
  split
  · split
    · exact .inl rfl
    · exact .inr rfl
  · exact .inr rfl
set_option maxHeartbeats 4000000 in
set_option maxRecDepth 100000 in
theorem open_any {w0 w : World} {p S E n : Nat} {d : Dk} (hd : Dsk w0 w p S E n d) (hn : n ≤ 1000000) (hby : By d.bs) (ht : Tbl w0) : Calls Tryd.prog 8 #[.pointer (some ⟨p, 0, none⟩)] w (OpenPost w0 w p S E n (opens n d)) := by
  obtain ⟨hN, hhN⟩ : ∃ hN : Nat, hN = n / 2 := ⟨_, rfl⟩
  have d0 := cell_eq (blk_cell hd.m.hp 0) rfl
  have HD := Lib.hid hd
  have HT := Lib.hid ht
  have HBY := Lib.hid hby
  have HN : Hid (hN = n / 2 ∧ 2 * hN ≤ n ∧ n ≤ 2 * hN + 1) := Lib.hid (by omega)
  clear hd ht hby hhN
  go_enter Tryd.func8, Tryd.ntmps8
  go_upto_region 2 with ((with_reducible refine (size_any w d0).mono ?_); rintro e w2 ⟨rfl, rfl⟩)
  rw [show ((n : Int) / 2) = (hN : Int) from by have := HN.out; omega]
  have HL1 : Hid (Lm w0 (w.alloc (.cells #[.pointer (some ⟨p, 0, none⟩), .int .i64 (hN : Int), .int .i64 0, .int .i64 0, .int .u32 0, .slice none 0 0, .slice none 0 0, .bool false] 56)) w.heap.size p S E (hN : Int) 0 0 0 (.slice none 0 0) (.slice none 0 0) [] [] false) :=
    Lib.hid ⟨alloc_blk _ _ _, Kd.R_nil _ _ _ _ _, Kd.R_nil _ _ _ _ _, HD.out.m.hb.size⟩
  have HD1 := Lib.hid (HD.out.below (below_new_ (o := .cells #[.pointer (some ⟨p, 0, none⟩), .int .i64 (hN : Int), .int .i64 0, .int .i64 0, .int .u32 0, .slice none 0 0, .slice none 0 0, .bool false] 56)))
  have HK1 : Hid (Kept w (w.alloc (.cells #[.pointer (some ⟨p, 0, none⟩), .int .i64 (hN : Int), .int .i64 0, .int .i64 0, .int .u32 0, .slice none 0 0, .slice none 0 0, .bool false] 56)) (DS p S E)) := Lib.hid (Kept.below (Kept.refl _ _) below_new_)
  obtain ⟨L, hLL⟩ : ∃ L, L = w.heap.size := ⟨_, rfl⟩
  have hLw : w.heap.size ≤ L := by omega
  rw [← hLL] at HL1 ⊢
  clear hLL HD d0
  generalize (w.alloc (.cells #[.pointer (some ⟨p, 0, none⟩), .int .i64 (hN : Int), .int .i64 0, .int .i64 0, .int .u32 0, .slice none 0 0, .slice none 0 0, .bool false] 56)) = w1 at HL1 HD1 HK1 ⊢
  have l1 := cell_eq (blk_cell HL1.out.hL 1) rfl
  have d3 := cell_eq (blk_cell HD1.out.m.hp 3) rfl
  have hi1 : IntKind.i64.wrap (2 * (hN : Int)) = 2 * (hN : Int) := IntWalk.i64_in _ (by have := HN.out; omega)
  have hw1 : wrap64 (2 * (hN : Int)) = 2 * (hN : Int) := IntWalk.wrap64_in _ (by clear hi1; have := HN.out; omega)
  cases hoff : d.off with
  | true =>
    rw [hoff] at d3
    have HAP : Hid (opens n d = (12, none, d)) := Lib.hid (by unfold opens; rw [if_pos hoff])
    clear hoff
    by_cases h64 : (hN : Int) < 64
    · go_wp2_with (first | ((with_reducible refine (on_any w1 d3).mono ?_); rintro e w2 ⟨rfl, rfl⟩) | ((with_reducible refine (read_off d3).mono ?_); rintro e w2 ⟨rfl, rfl⟩))
      go_ret2
      rw [HAP.out]
      exact ⟨.pointer none, rfl, HD1.out, HK1.out, fun _ => rfl, fun g hg => by cases hg⟩
    · go_wp2_with (first | ((with_reducible refine (on_any w1 d3).mono ?_); rintro e w2 ⟨rfl, rfl⟩) | ((with_reducible refine (read_off d3).mono ?_); rintro e w2 ⟨rfl, rfl⟩))
      go_ret2
      rw [HAP.out]
      exact ⟨.pointer none, rfl, HD1.out, HK1.out, fun _ => rfl, fun g hg => by cases hg⟩
  | false =>
    rw [hoff] at d3
    have HOFF := Lib.hid hoff
    clear hoff
    by_cases h64 : (hN : Int) < 64
    · have HAP : Hid (opens n d = (3, none, d)) := Lib.hid (by unfold opens; rw [if_neg (by rw [HOFF.out]; simp), if_pos (by have := HN.out; omega)])
      go_wp2_with (first | ((with_reducible refine (on_any w1 d3).mono ?_); rintro e w2 ⟨rfl, rfl⟩))
      go_ret2
      rw [HAP.out]
      exact ⟨.pointer none, rfl, HD1.out, HK1.out, fun _ => rfl, fun g hg => by cases hg⟩
    · have h64' : ¬ hN < 64 := by omega
      obtain ⟨b, hb⟩ : ∃ b, b = d.bs.take (2 * hN) := ⟨_, rfl⟩
      have hbl : b.length = 2 * hN := by rw [hb, List.length_take, HD1.out.m.lS]; have := HN.out; omega
      have hbb : By b := by rw [hb]; exact by_take HBY.out _
      have hRD := read_on HD1.out HOFF.out 0 (2 * hN) (by have := HN.out; omega) (by have := HN.out; omega)
      have HRD : Hid (Calls Tryd.prog 21 #[.pointer (some ⟨p, 0, none⟩), .int .i64 0, .int .i64 (2 * (hN : Int))] w1 fun e w' => ∃ v : Value, e = .returned (.tuple #[v, .int .i64 0]) ∧ Kd.R (Kd.int .u8) 5 w' w1.heap.size (fun _ => True) v b ∧ Below w1.heap.size w1 w') := Lib.hid (by
        rw [hb]
        exact hRD)
      have HAP : Hid (opens n d = if (Lg.seen hN b).gen = 0 then (if ((Lg.seen hN b).begins d 1 []).1 = 0 then (0, some ((Lg.seen hN b).begins d 1 []).2.1, ((Lg.seen hN b).begins d 1 []).2.2) else (12, none, ((Lg.seen hN b).begins d 1 []).2.2)) else
          if (((Lg.seen hN b).read hN b).rest hN b).any (fun x => x != 0) = true then
            (if (d.put (((Lg.seen hN b).read hN b).frm + ((Lg.seen hN b).read hN b).end_).toNat (List.replicate (((Lg.seen hN b).read hN b).rest hN b).length 0)).2 = true then (0, some ((Lg.seen hN b).read hN b), (d.put (((Lg.seen hN b).read hN b).frm + ((Lg.seen hN b).read hN b).end_).toNat (List.replicate (((Lg.seen hN b).read hN b).rest hN b).length 0)).1) else (12, none, (d.put (((Lg.seen hN b).read hN b).frm + ((Lg.seen hN b).read hN b).end_).toNat (List.replicate (((Lg.seen hN b).read hN b).rest hN b).length 0)).1))
          else (0, some ((Lg.seen hN b).read hN b), d)) := Lib.hid (by
        unfold opens
        rw [if_neg (by rw [HOFF.out]; simp), ← HN.out.1, if_neg h64', ← hb])
      have HSN := Lib.hid (Seen.seen hbb hbl)
      have HBL := Lib.hid hbl
      have HBB := Lib.hid hbb
      clear hb hRD hbl hbb
      go_upto_region 5 with (first | ((with_reducible refine HRD.out.mono ?_); rintro e w2 ⟨v, rfl, hR2, hB2⟩))
      obtain ⟨A, c, rfl, hbc, hC2⟩ := Kd.R_reads hR2
      obtain ⟨ad, rfl, _⟩ := hC2.2.2 (by have := HBL.out; omega)
      clear hC2
      have hcm : c ≤ 9223372036854775807 := by
        obtain ⟨inner, ho, _⟩ := hR2.2
        rcases ho.2 with ⟨h, _⟩ | ⟨g, cap, cur, h, _, _, _, h4, _⟩
        · cases h
        · injection h with _ _ h
          have : maxLen = 9223372036854775807 := rfl
          omega
      have HKC : Hid (∀ W, KT L w2 W → Kd.C (Kd.int .u8) W (some ad) b.length b) := Lib.hid (by
        intro W hW
        have h1 := Kd.R_lower hR2 (show w0.heap.size ≤ w1.heap.size from HD1.out.m.hb.size)
        have h2 := R_types (X := KS L w2) h1 hW (fun j hj _ => by
          obtain ⟨_, cs, t, e1, e2⟩ := hj
          exact ⟨cs, t, e1, by rcases e2 with rfl | rfl <;> simp [Kd.int, Kd.scalar]⟩)
        exact (Kd.R_reads' h2).2.2)
      have HL2 := Lib.hid (HL1.out.below hB2)
      have HD2 := Lib.hid (HD1.out.below hB2)
      have HK2 := Lib.hid (HK1.out.below hB2)
      clear HRD HL1 HD1 HK1 hB2 l1 d3 hi1 hw1
      have HC2 := Lib.hid (HKC.out w2 (KT.refl _ _))
      have l2 := cell_eq (blk_cell HL2.out.hL 1) rfl
      have htl : (b.take hN).length = hN := by rw [List.length_take]; have := HBL.out; omega
      have HTL := Lib.hid htl
      have HLK : Hid (Calls Tryd.prog 22 #[.pointer (some ⟨L, 0, none⟩), .slice (some ad) hN c, .int .i64 0] w2 (LooksPost w0 w2 L p S E n (.slice none 0 0) ((Lg.new hN).looks (b.take hN) 0) d)) := Lib.hid (by
        have h := looks_any (g := Lg.new hN) (sv := .slice none 0 0) (rv := .slice none 0 0) (A := some ad) (c := c) (b := b.take hN) (at' := 0) HL2.out HD2.out (Kd.C_take HC2.out (by have := HBL.out; omega)) (by rw [htl]; have := HBL.out; omega) (by_take HBB.out _) (by rw [htl]; have := HN.out; omega) HT.out
        rw [htl] at h
        exact h)
      have HS1 := Lib.hid ((Seen.new hN).looks (by_take HBB.out hN) htl 0)
      have HSE : Hid (Lg.seen hN b = ((Lg.new hN).looks (b.take hN) 0).looks (b.drop hN) hN) := Lib.hid rfl
      clear htl
      have hc1 : (hN : Int) ≤ (c : Int) := by have := HBL.out; omega
      have hc2 : (0 : Int) ≤ (hN : Int) := by omega
      go_upto_region 8 with (first | ((with_reducible refine HLK.out.mono ?_); rintro e w3 ⟨rfl, sv3, hL3, hD3, hK3⟩))
      have HL3 := Lib.hid hL3
      have HD3 := Lib.hid hD3
      have HK3 : Hid (KT L w2 w3) := Lib.hid (kt_L HL2.out hK3)
      clear HLK hL3 hD3 hK3 l2 hc1 hc2 HTL HC2 HL2 HD2 hR2
      obtain ⟨g1, hg1⟩ : ∃ g, g = (Lg.new hN).looks (b.take hN) 0 := ⟨_, rfl⟩
      rw [← hg1] at HL3 HS1 HSE
      clear hg1
      obtain ⟨half, frm, end_, gen, snap, recs, down⟩ := g1
      obtain rfl : half = (hN : Int) := HS1.out.half
      obtain rfl : recs = [] := HS1.out.recs
      obtain rfl : down = false := HS1.out.down
      have HC3 := Lib.hid (HKC.out w3 HK3.out)
      refine op8_wp HL3 HD3 HC3 HT (by have := HBL.out; omega) hcm HBL.out (by omega) (by have := HN.out; omega) HBB.out (Lib.hid fun c a N v w h => by cases N <;> exact h) (Lib.hid ?_)
      intro d46 d47 d48 d49 d50 d51 d52 d53 d54 d55 d56 d57 sv4 w4 HL4 HD4 HK4
      rw [← HSE.out] at HL4
      have HK5 : Hid (KT L w2 w4) := Lib.hid (HK3.out.trans HK4.out)
      clear HL3 HD3 HC3 HS1 HSE HK3 HK4
      clear frm end_ gen snap
      obtain ⟨gs, hgs⟩ : ∃ g, g = Lg.seen hN b := ⟨_, rfl⟩
      rw [← hgs] at HL4 HSN HAP
      clear hgs
      obtain ⟨half, frm, end_, gen, snap, recs, down⟩ := gs
      obtain rfl : half = (hN : Int) := HSN.out.half
      obtain rfl : recs = [] := HSN.out.recs
      obtain rfl : down = false := HSN.out.down
      have l4 := cell_eq (blk_cell (show Lm w0 w4 L p S E (hN : Int) frm end_ gen sv4 (.slice none 0 0) snap [] false from HL4.out).hL 4) rfl
      have HKD : Hid (Kept w w4 (DS p S E)) := Lib.hid (kt_back HK2.out HK5.out hLw)
      by_cases hg0 : gen = 0
      · subst hg0
        have HBG : Hid (Calls Tryd.prog 23 #[.pointer (some ⟨L, 0, none⟩), .int .u32 1, .slice none 0 0] w4 (BeginsPost w0 w4 L p S E n (Lg.begins ⟨(hN : Int), frm, end_, 0, snap, [], false⟩ d 1 []))) := Lib.hid (begins_any (g := ⟨(hN : Int), frm, end_, 0, snap, [], false⟩) (gen' := 1) (A := none) (c := 0) (b := []) HL4.out HD4.out (by show (1 : Int) ≤ (hN : Int); omega) (by show (hN : Int) ≤ 1000000; have := HN.out; omega) (by show 2 * (hN : Int) ≤ (n : Int); have := HN.out; omega) (by decide) (by decide) (by show 16 + ((0 : Nat) : Int) ≤ (hN : Int); omega) (fun W _ => Kd.C_nil _ W) (Nat.le_refl _) (fun x hx => by cases hx) HT.out)
        have hre := begins_err ⟨(hN : Int), frm, end_, 0, snap, [], false⟩ d 1 []
        obtain ⟨r, hr⟩ : ∃ r, r = Lg.begins ⟨(hN : Int), frm, end_, 0, snap, [], false⟩ d 1 [] := ⟨_, rfl⟩
        have HAP2 := Lib.hid (HAP.out.trans (if_pos rfl))
        rw [← hr] at HBG HAP2 hre
        clear hr HAP
        obtain ⟨x, g', d'⟩ := r
        simp only at hre
        rcases hre with rfl | rfl
        · have HAP3 := Lib.hid (HAP2.out.trans (if_pos rfl))
          clear HAP2
          go_wp2_with (first | ((with_reducible refine HBG.out.mono ?_); rintro e w5 ⟨rfl, sv5, rv5, hl5, hd5, hk5⟩; dsimp only at hl5 hd5 ⊢; have HL5 := Lib.hid hl5; have HD5 := Lib.hid hd5; have HK6 := Lib.hid hk5; clear hl5 hd5 hk5))
          go_ret2
          rw [HAP3.out]
          exact ⟨.pointer (some ⟨L, 0, none⟩), rfl, HD5.out, ls_back HKD.out HK6.out hLw, (fun h => by cases h), fun g hg => by cases hg; exact ⟨L, sv5, rv5, rfl, hLw, HL5.out⟩⟩
        · have HAP3 := Lib.hid (HAP2.out.trans (if_neg (by show ¬ (12 : Int) = 0; decide)))
          clear HAP2
          go_wp2_with (first | ((with_reducible refine HBG.out.mono ?_); rintro e w5 ⟨rfl, sv5, rv5, hl5, hd5, hk5⟩; dsimp only at hl5 hd5 ⊢; have HL5 := Lib.hid hl5; have HD5 := Lib.hid hd5; have HK6 := Lib.hid hk5; clear hl5 hd5 hk5))
          go_ret2
          rw [HAP3.out]
          exact ⟨.pointer none, rfl, HD5.out, ls_back HKD.out HK6.out hLw, (fun _ => rfl), fun g hg => by cases hg⟩
      · have hfr : frm = 0 ∨ frm = (hN : Int) := by
          have h := HSN.out.frm hg0
          simp only at h
          unfold placeP at h
          split at h
          · exact .inl h
          · exact .inr h
        have he0 : 16 ≤ end_ := HSN.out.e0 hg0
        have he1 : end_ ≤ (hN : Int) := HSN.out.e1 hg0
        have hgl : 1 ≤ gen := by have h : 0 ≤ gen := HSN.out.g0; omega
        have hgu : gen ≤ 4294967295 := HSN.out.g1
        obtain ⟨fN, rfl⟩ : ∃ f : Nat, frm = (f : Int) := ⟨frm.toNat, by omega⟩
        obtain ⟨eN, rfl⟩ : ∃ f : Nat, end_ = (f : Int) := ⟨end_.toNat, by omega⟩
        have hfN : fN ≤ hN := by omega
        have heN : eN ≤ hN := by omega
        have HAP2 := HAP.out.trans (if_neg hg0)
        have hml : ((b.take (fN + hN)).drop fN).length = hN := by rw [List.length_drop, List.length_take]; have := HBL.out; omega
        obtain ⟨R, hR⟩ : ∃ R, readAll ((b.take (fN + hN)).drop fN) gen (hN + 1) eN [] = R := ⟨_, rfl⟩
        have hRb := readAll_bd (gen := gen) (by_drop (by_take HBB.out (fN + hN)) fN) (hN + 1) eN [] (by rw [hml]; exact heN) (Nat.zero_le _)
        rw [hR, hml] at hRb
        have HRR := Lib.hid hR
        obtain ⟨e', rs⟩ := R
        simp only at hRb
        have hRD : Lg.read ⟨(hN : Int), fN, eN, gen, snap, [], false⟩ hN b = ⟨(hN : Int), fN, e', gen, snap, rs, false⟩ := by
          unfold Lg.read
          simp only [Int.toNat_natCast]
          rw [hR]
        obtain ⟨rest, hrest⟩ : ∃ r, r = (b.take (fN + hN)).drop (fN + e') := ⟨_, rfl⟩
        have hRS : Lg.rest ⟨(hN : Int), fN, e', gen, snap, rs, false⟩ hN b = rest := by
          unfold Lg.rest
          simp only
          rw [hrest, show ((fN : Int) + (e' : Int)).toNat = fN + e' from by omega, Int.toNat_natCast]
        have hrl : rest.length = hN - e' := by rw [hrest, List.length_drop, List.length_take]; have := HBL.out; omega
        rw [hRD, hRS, hrl] at HAP2
        simp only at HAP2
        rw [show ((fN : Int) + (e' : Int)).toNat = fN + e' from by omega] at HAP2
        have HAP3 := Lib.hid HAP2
        have HRL := Lib.hid hrl
        have HRE := Lib.hid hrest
        have HRB := Lib.hid hRb
        have HKC4 : Hid (∀ W, KT L w4 W → Kd.C (Kd.int .u8) W (some ad) b.length b) := Lib.hid (fun W hW => HKC.out W (HK5.out.trans hW))
        have HL4' : Hid (Lm w0 w4 L p S E (hN : Int) (fN : Int) (eN : Int) gen sv4 (.slice none 0 0) snap [] false) := Lib.hid HL4.out
        clear HAP HAP2 hRD hRS hrl hrest hRb hR hml HKC HK5 HK2 HL4
        go_upto_region 14 with (fail)
        refine op14_wp HL4' HD4 HKC4 HT hbc hcm HBL.out (by omega) (by have := HN.out; omega) hfN heN HBB.out (Nat.zero_le _) hgl hgu (Lib.hid (fun k hk => by cases hk)) HRR (Lib.hid fun c a N v w h => by cases N <;> exact h) (Lib.hid ?_)
        intro d69 d70 d71 d72 d73 d74 d75 d76 d77 d78 d79 d80 d81 d82 d83 d84 d85 rv5 w5 HL5 HD5 HK6
        have HKD5 : Hid (Kept w w5 (DS p S E)) := Lib.hid (kt_back HKD.out HK6.out hLw)
        have HC5 := Lib.hid (HKC4.out w5 HK6.out)
        clear HL4' HD4 HKC4 HKD HK6 HRR
        by_cases hce : c = fN + e'
        · have h1 := HRB.out
          have h2 := HBL.out
          obtain rfl : fN = hN := by omega
          obtain rfl : e' = fN := by omega
          subst hce
          clear h1 h2
          go_upto_region 15 with (fail)
          refine op15b_wp (d := d) (n := n) HL5 (by have := HBL.out; omega) (by have := HBL.out; omega) (by omega) (by have := HN.out; omega) (Lib.hid fun c a N v w h => by cases N <;> exact h) (Lib.hid ?_)
          intro d86 d87 d88 d89 d90 d91 d92 d93 d94 d95 d96 d97 d98 d99 d100 d101 d102 d103 d104 d105 w6 HB6
          have hnil : rest = [] := List.eq_nil_of_length_eq_zero (by rw [HRL.out]; omega)
          rw [hnil] at HAP3
          have HAP4 := Lib.hid (HAP3.out.trans (if_neg (by simp)))
          have HHA : Hid (Calls Tryd.prog 25 #[.slice (some ad) 0 0, .func (.func 26) #[] #[]] w6 fun e w' => e = .returned (.bool false) ∧ w6 = w') := Lib.hid (has_any w6 [] (some ad) 0 ⟨rfl, by simp, fun h => absurd h (Nat.lt_irrefl 0)⟩ (Nat.zero_le _))
          go_wp2_with (first | ((with_reducible refine HHA.out.mono ?_); rintro e w7 ⟨rfl, rfl⟩))
          go_ret2
          rw [HAP4.out]
          exact ⟨.pointer (some ⟨L, 0, none⟩), rfl, HD5.out.below HB6.out, HKD5.out.below HB6.out, (fun h => by cases h), fun g hg => by cases hg; exact ⟨L, sv4, rv5, rfl, hLw, HL5.out.below HB6.out⟩⟩
        · go_upto_region 15 with (fail)
          refine op15a_wp (d := d) (n := n) HL5 hbc hcm HBL.out (by omega) (by have := HN.out; omega) hfN HRB.out.2.1 hce (Lib.hid fun c a N v w h => by cases N <;> exact h) (Lib.hid ?_)
          intro d86 d87 d88 d89 d90 d91 d92 d93 d94 d95 d96 d97 d98 d99 d100 d101 d102 d103 d104 d105 w6 HB6
          have HL6 := Lib.hid (HL5.out.below HB6.out)
          have HD6 := Lib.hid (HD5.out.below HB6.out)
          have HKD6 := Lib.hid (HKD5.out.below HB6.out)
          have HHA : Hid (Calls Tryd.prog 25 #[.slice (some (ad.add (fN + e'))) (hN - e') (c - (fN + e')), .func (.func 26) #[] #[]] w6 fun e w' => e = .returned (.bool (rest.any fun x => x != 0)) ∧ w6 = w') := Lib.hid (by
            have h := Kd.C_mid (Kd.C_below HC5.out HB6.out) (show fN + e' ≤ fN + hN by have := HRB.out; omega) (by have := HBL.out; omega) hbc
            rw [if_neg hce, Option.map_some, show (Kd.int .u8).sz = 1 from rfl, Nat.mul_one, ← HRE.out] at h
            have h2 := has_any w6 rest _ (c - (fN + e')) h (by rw [HRL.out]; have := HN.out; omega)
            rw [HRL.out] at h2
            exact h2)
          clear HL5 HD5 HKD5 HC5 HB6
          cases hany : rest.any (fun x => x != 0) with
          | false =>
            rw [hany] at HHA HAP3
            have HAP4 := Lib.hid (HAP3.out.trans (if_neg (by simp)))
            clear hany
            go_wp2_with (first | ((with_reducible refine HHA.out.mono ?_); rintro e w7 ⟨rfl, rfl⟩))
            go_ret2
            rw [HAP4.out]
            exact ⟨.pointer (some ⟨L, 0, none⟩), rfl, HD6.out, HKD6.out, (fun h => by cases h), fun g hg => by cases hg; exact ⟨L, sv4, rv5, rfl, hLw, HL6.out⟩⟩
          | true =>
            rw [hany] at HHA HAP3
            have HAP4 := Lib.hid (HAP3.out.trans (if_pos rfl))
            have hm0 : 0 < hN - e' := by
              rcases Nat.eq_zero_or_pos (hN - e') with h | h
              · rw [List.eq_nil_of_length_eq_zero (HRL.out.trans h)] at hany
                cases hany
              · exact h
            clear hany HAP3
            go_upto_region 17 with ((with_reducible refine HHA.out.mono ?_); rintro e w7 ⟨rfl, rfl⟩)
            refine op17_wp (a := fN + e') (n := n) (d := d) HL6 HD6 (by omega) (by have := HRB.out; have := HN.out; omega) hm0 HD6.out.m.hn (Lib.hid fun c a N v w h => by cases N <;> exact h) (Lib.hid ?_)
            intro d108 d109 d110 d111 d112 d113 d114 d115 d116 d117 d118 d119 d120 d121 w7 HD7 HL7 HK7
            have HKD7 : Hid (Kept w w7 (DS p S E)) := Lib.hid (ls_back HKD6.out HK7.out hLw)
            clear HL6 HD6 HKD6 HK7 HHA
            obtain ⟨r, hr⟩ : ∃ r, r = d.put (fN + e') (List.replicate (hN - e') 0) := ⟨_, rfl⟩
            rw [← hr] at HD7 HL7 HAP4 ⊢
            clear hr
            obtain ⟨d', okb⟩ := r
            cases okb with
            | false =>
              have HAP5 := Lib.hid (HAP4.out.trans (if_neg (by simp)))
              rw [show (if ((d', false) : Dk × Bool).2 = true then (0 : Int) else 12) = 12 from if_neg (by simp)]
              clear HAP4 HL7
              go_wp2
              go_ret2
              rw [HAP5.out]
              exact ⟨.pointer none, rfl, HD7.out, HKD7.out, (fun _ => rfl), fun g hg => by cases hg⟩
            | true =>
              have HAP5 := Lib.hid (HAP4.out.trans (if_pos rfl))
              rw [show (if ((d', true) : Dk × Bool).2 = true then (0 : Int) else 12) = 0 from if_pos (by simp)]
              clear HAP4
              go_wp2
              go_ret2
              rw [HAP5.out]
              exact ⟨.pointer (some ⟨L, 0, none⟩), rfl, HD7.out, HKD7.out, (fun h => by cases h), fun g hg => by cases hg; exact ⟨L, sv4, rv5, rfl, hLw, HL7.out⟩⟩
end Go.Proofs.YtndelndgioojgaaDoor.Own
