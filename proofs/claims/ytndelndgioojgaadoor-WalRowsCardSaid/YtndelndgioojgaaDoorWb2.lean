import Derived.Test.YtndelndgioojgaaDoorWb1
namespace Go.Proofs.YtndelndgioojgaaDoor.Own
open Go.RowKit Go.Proofs.YtndelndgioojgaaDoorW.PrintWords Go.Proofs.YtndelndgioojgaaDoorW.PrintLast Go.Proofs.YtndelndgioojgaaDoorW.PrintMore
set_option linter.unusedVariables false
set_option linter.unusedSimpArgs false
def Lg.compact (g : Lg) (d : Dk) (b : List Int) : Int × Lg × Dk :=
  if (g.down || d.off) = true then (12, { g with down := true }, d)
  else if g.half - 16 < (b.length : Int) then (7, g, d)
  else if g.gen = 4294967295 then (11, g, d)
  else g.begins d (g.gen + 1) b
set_option maxHeartbeats 4000000 in
set_option maxRecDepth 100000 in
theorem compact_any {w0 w : World} {L p S E n : Nat} {g : Lg} {sv rv : Value} {d : Dk} {A : Option Addr} {c : Nat} {b : List Int}
    (hl : LM w0 w L p S E g sv rv) (hd : Dsk w0 w p S E n d) (hft : Fit n g) (h2 : 2 * g.half ≤ (n : Int)) (hh : 1 ≤ g.half) (hbE : ∀ W, Kept w W (LS L p S E) → Kd.C (Kd.int .u8) W A b.length b) (hc : b.length ≤ c) (hby : By b) (ht : Tbl w0) :
    Calls Tryd.prog 11 #[.pointer (some ⟨L, 0, none⟩), .slice A b.length c] w (BeginsPost w0 w L p S E n (g.compact d b)) := by
  have HFE := Lib.hid (fell_any hl hd)
  have HBE := Lib.hid hbE
  have HT := Lib.hid ht
  obtain ⟨a1, a2, a3, a4, a5, a6, a7, a8, a9⟩ := hft
  clear hl hd hbE ht
  obtain ⟨half, frm, end_, gen, snap, recs, down⟩ := g
  simp only at a1 a2 a3 a4 a5 a6 a7 a8 a9 h2 hh
  have HA : Hid (0 ≤ half ∧ half ≤ 1000000 ∧ 1 ≤ gen ∧ gen ≤ 4294967295 ∧ 2 * half ≤ (n : Int) ∧ 1 ≤ half) := Lib.hid ⟨a1, a2, a7, a8, h2, hh⟩
  clear a1 a2 a3 a4 a5 a6 a7 a8 a9 h2 hh
  cases hdn : (down || d.off) with
  | true =>
    have HAP : Hid (Lg.compact ⟨half, frm, end_, gen, snap, recs, down⟩ d b = (12, ⟨half, frm, end_, gen, snap, recs, true⟩, d)) := Lib.hid (by unfold Lg.compact; rw [if_pos hdn])
    have HDN := Lib.hid hdn
    clear hdn
    go_enter Tryd.func11, Tryd.ntmps11
    go_wp2_with (first | ((with_reducible refine HFE.out.mono ?_); rintro e w2 ⟨rfl, hd2, hl2, hk2⟩; rw [HDN.out] at hl2 ⊢; have HD2 := Lib.hid hd2; have HL2 := Lib.hid hl2; have HK2 := Lib.hid hk2; clear hd2 hl2 hk2))
    go_ret
    rw [HAP.out]
    exact ⟨rfl, sv, rv, HL2.out, HD2.out, HK2.out⟩
  | false =>
    have HDN := Lib.hid hdn
    have HDO : Hid (down = false ∧ d.off = false) := Lib.hid (by simpa using hdn)
    clear hdn
    go_enter Tryd.func11, Tryd.ntmps11
    go_upto_region 3 with ((with_reducible refine HFE.out.mono ?_); rintro e w2 ⟨rfl, hd2, hl2, hk2⟩; rw [HDN.out] at hl2 ⊢; have HD2 := Lib.hid hd2; have HL2 := Lib.hid hl2; have HK2 := Lib.hid hk2; clear hd2 hl2 hk2)
    have l1 := cell_eq (blk_cell HL2.out.hL 1) rfl
    have l4 := cell_eq (blk_cell HL2.out.hL 4) rfl
    have hw : wrap64 (half - 16) = half - 16 := by have := HA.out; unfold wrap64; omega
    clear HFE
    by_cases hrm : half - 16 < (b.length : Int)
    · have HAP : Hid (Lg.compact ⟨half, frm, end_, gen, snap, recs, down⟩ d b = (7, ⟨half, frm, end_, gen, snap, recs, down⟩, d)) := Lib.hid (by unfold Lg.compact; rw [if_neg (by rw [HDN.out]; simp), if_pos hrm])
      go_wp2
      go_ret
      rw [HAP.out]
      exact ⟨rfl, sv, rv, by rw [HDO.out.1]; exact HL2.out, HD2.out, HK2.out⟩
    · have hrm2 : ¬ (1048576 : Int) < (b.length : Int) := by have := HA.out; omega
      have HBR : Hid ((b.length : Int) ≤ half - 16) := Lib.hid (by omega)
      by_cases hgm : gen = 4294967295
      · have HAP : Hid (Lg.compact ⟨half, frm, end_, gen, snap, recs, down⟩ d b = (11, ⟨half, frm, end_, gen, snap, recs, down⟩, d)) := Lib.hid (by unfold Lg.compact; rw [if_neg (by rw [HDN.out]; simp), if_neg hrm, if_pos hgm])
        subst hgm
        go_wp2
        go_ret
        rw [HAP.out]
        exact ⟨rfl, sv, rv, by rw [HDO.out.1]; exact HL2.out, HD2.out, HK2.out⟩
      · have HAP : Hid (Lg.compact ⟨half, frm, end_, gen, snap, recs, down⟩ d b = Lg.begins ⟨half, frm, end_, gen, snap, recs, down⟩ d (gen + 1) b) := Lib.hid (by unfold Lg.compact; rw [if_neg (by rw [HDN.out]; simp), if_neg hrm, if_neg hgm])
        have hu : (gen + 1) % 4294967296 = gen + 1 := by have := HA.out; omega
        have hu2 : IntKind.u32.wrap (gen + 1) = gen + 1 := by rw [u32_wrap]; exact hu
        have HBG := Lib.hid (begins_any (g := ⟨half, frm, end_, gen, snap, recs, down⟩) (w := w2) (gen' := gen + 1) (sv := sv) (rv := rv) (b := b) (A := A) (c := c) (by show Lm w0 w2 L p S E half frm end_ gen sv rv snap recs down; rw [HDO.out.1]; exact HL2.out) HD2.out HA.out.2.2.2.2.2 HA.out.2.1 HA.out.2.2.2.2.1 (by have := HA.out; omega) (by have := HA.out; omega) (by have := HBR.out; show 16 + (b.length : Int) ≤ half; omega) (fun W hW => HBE.out W (HK2.out.then_ hW (fun k hk => .inl hk))) hc hby HT.out)
        go_wp2_with (first | ((with_reducible refine HBG.out.mono ?_); rintro e w3 ⟨rfl, sv', rv', hl3, hd3, hk3⟩; have HL3 := Lib.hid hl3; have HD3 := Lib.hid hd3; have HK3 := Lib.hid hk3; clear hl3 hd3 hk3))
        go_ret
        rw [HAP.out]
        exact ⟨rfl, sv', rv', HL3.out, HD3.out, HK2.out.then_ HK3.out (fun k hk => .inl hk)⟩
end Go.Proofs.YtndelndgioojgaaDoor.Own
