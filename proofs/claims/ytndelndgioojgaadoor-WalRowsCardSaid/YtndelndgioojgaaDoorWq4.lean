import Derived.Test.YtndelndgioojgaaDoorWq3
namespace Go.Proofs.YtndelndgioojgaaDoor.Own
open Go.RowKit Go.Proofs.YtndelndgioojgaaDoorW.PrintWords Go.Proofs.YtndelndgioojgaaDoorW.PrintLast Go.Proofs.YtndelndgioojgaaDoorW.PrintMore
set_option linter.unusedVariables false
set_option linter.unusedSimpArgs false
theorem get4_fr {g m : Int} {p r : List Int} (hp : p.length ≤ 1048576) : get4 (fr g m p ++ r) = (p.length : Int) := by
  unfold fr body
  simp only [List.append_assoc]
  exact get4_four (by omega) (by omega) _
theorem drop4_fr (g m : Int) (p r : List Int) : (fr g m p ++ r).drop 4 = four g ++ (four m ++ (p ++ (four (sm (body g m p)) ++ r))) := by
  unfold fr
  rw [show body g m p = four (p.length : Int) ++ (four g ++ (four m ++ p)) from rfl]
  simp only [List.append_assoc]
  exact List.drop_left' (four_len _)
theorem genOf_fr {g m : Int} {p r : List Int} (hg : U g) : genOf (fr g m p ++ r) = g := by
  unfold genOf
  rw [if_neg (by rw [List.length_append, fr_len]; omega), drop4_fr]
  exact get4_four hg.1 hg.2 _
theorem payload_fr {g m : Int} {p r : List Int} (hp : p.length ≤ 1048576) : payload (fr g m p ++ r) = p := by
  unfold payload
  rw [get4_fr hp, Int.toNat_natCast]
  have h1 : fr g m p ++ r = (four (p.length : Int) ++ (four g ++ four m)) ++ (p ++ (four (sm (body g m p)) ++ r)) := by
    unfold fr
    rw [show body g m p = four (p.length : Int) ++ (four g ++ (four m ++ p)) from rfl]
    simp only [List.append_assoc]
  have h2 : (four (p.length : Int) ++ (four g ++ four m)).length = 12 := by simp [four_len]
  rw [h1, List.take_append, h2, List.take_of_length_le (by rw [h2]; omega), List.drop_left' h2, show 12 + p.length - 12 = p.length from by omega, List.take_left' rfl]
theorem good_fr {g m : Int} {p r : List Int} (hg : U g) (hm : U m) (h0 : g ≠ 0) (hp : p.length ≤ 1048576) (hb : By (fr g m p ++ r)) : Good (fr g m p ++ r) g m :=
  (good_iff hb g m hg hm).2 ⟨h0, p, r, hp, rfl⟩
theorem not_good_zs {c : Nat} {g m : Int} (h0 : g ≠ 0) : ¬ Good (zs c) g m := fun h => by
  have h1 := h.2.1
  have h2 := h.2.2.1
  rw [List.length_replicate] at h1
  rw [zs, List.drop_replicate, get4_zs (by omega)] at h2
  exact h0 h2.symm
/-- Frames of a generation, numbered from m on. -/
def frs (g : Int) : Int → List (List Int) → List Int
  | _, [] => []
  | m, r :: rs => fr g m r ++ frs g (m + 1) rs
theorem frs_by {g : Int} : ∀ {m : Int} {rs : List (List Int)}, (∀ r ∈ rs, By r) → By (frs g m rs)
  | _, [], _ => fun x hx => by cases hx
  | m, r :: rs, h => by_app.2 ⟨fr_by (h r (List.mem_cons_self ..)), frs_by (fun x hx => h x (List.mem_cons_of_mem _ hx))⟩
theorem frs_snoc {g : Int} : ∀ {m : Int} {rs : List (List Int)} {b : List Int}, frs g m (rs ++ [b]) = frs g m rs ++ fr g (m + rs.length) b
  | m, [], b => by simp [frs]
  | m, r :: rs, b => by
    show fr g m r ++ frs g (m + 1) (rs ++ [b]) = fr g m r ++ frs g (m + 1) rs ++ fr g (m + ((rs.length + 1 : Nat) : Int)) b
    rw [frs_snoc, List.append_assoc, show m + 1 + (rs.length : Int) = m + ((rs.length + 1 : Nat) : Int) from by omega]
theorem frs_len {g : Int} : ∀ {m : Int} {rs : List (List Int)}, 16 * rs.length ≤ (frs g m rs).length
  | _, [] => by simp [frs]
  | m, r :: rs => by
    have := frs_len (g := g) (m := m + 1) (rs := rs)
    show 16 * (rs.length + 1) ≤ (fr g m r ++ frs g (m + 1) rs).length
    rw [List.length_append, fr_len]
    omega
/-- What lies in a log's half. -/
def lay (g : Int) (snap : List Int) (recs : List (List Int)) : List Int := fr g 0 snap ++ frs g 1 recs
theorem readAll_frs {g : Int} (hg : U g) (h0 : g ≠ 0) : ∀ (rs : List (List Int)) (pre rest : List Int) (r0 : List (List Int)) (k : Nat), By (pre ++ (frs g ((r0.length : Int) + 1) rs ++ rest)) → (∀ r ∈ rs, r.length ≤ 1048576) → r0.length + rs.length ≤ 1000000 → ¬ Good rest g ((r0.length : Int) + rs.length + 1) → rs.length ≤ k →
    readAll (pre ++ (frs g ((r0.length : Int) + 1) rs ++ rest)) g (k + 1) pre.length r0 = (pre.length + (frs g ((r0.length : Int) + 1) rs).length, r0 ++ rs)
  | [], pre, rest, r0, k, hby, hl, hn, hng, hk => by
    rw [readAll, List.drop_left' rfl, if_neg (by show ¬ Good rest g _; simpa using hng)]
    simp [frs]
  | r :: rs, pre, rest, r0, k, hby, hl, hn, hng, hk => by
    obtain ⟨k', rfl⟩ : ∃ k', k = k' + 1 := ⟨k - 1, by simp at hk; omega⟩
    have hr := hl r (List.mem_cons_self ..)
    have e1 : frs g ((r0.length : Int) + 1) (r :: rs) ++ rest = fr g ((r0.length : Int) + 1) r ++ (frs g ((r0.length : Int) + 1 + 1) rs ++ rest) := by
      show (fr g _ r ++ frs g _ rs) ++ rest = _
      rw [List.append_assoc]
    have hbt : By (fr g ((r0.length : Int) + 1) r ++ (frs g ((r0.length : Int) + 1 + 1) rs ++ rest)) := by rw [← e1]; exact (by_app.1 hby).2
    rw [readAll, List.drop_left' rfl, e1, if_pos (good_fr hg ⟨by omega, by simp at hn; omega⟩ h0 hr hbt), get4_fr hr, payload_fr hr, Int.toNat_natCast]
    have ih := readAll_frs hg h0 rs (pre ++ fr g ((r0.length : Int) + 1) r) rest (r0 ++ [r]) k' (by
        rw [List.length_append, List.length_singleton, List.append_assoc]
        rw [e1] at hby
        rw [show ((r0.length + 1 : Nat) : Int) + 1 = (r0.length : Int) + 1 + 1 from by omega]
        exact hby) (fun x hx => hl x (List.mem_cons_of_mem _ hx)) (by simp at hn ⊢; omega) (by
        rw [List.length_append, List.length_singleton]
        rw [show ((r0.length + 1 : Nat) : Int) + (rs.length : Int) + 1 = (r0.length : Int) + ((r :: rs).length : Int) + 1 from by simp; omega]
        exact hng) (by simp at hk; omega)
    rw [List.length_append, List.length_singleton, List.length_append, fr_len, show ((r0.length + 1 : Nat) : Int) + 1 = (r0.length : Int) + 1 + 1 from by omega, List.append_assoc, List.append_assoc] at ih
    rw [show pre.length + (r.length + 16) = pre.length + (16 + r.length) from by omega, ih]
    show (_, _) = (pre.length + (fr g ((r0.length : Int) + 1) r ++ frs g ((r0.length : Int) + 1 + 1) rs).length, r0 ++ r :: rs)
    rw [List.length_append, fr_len]
    simp
    omega
/-- A log and its disk: its half holds its frames and zeros, the other half no greater generation. -/
structure Laid (n h : Nat) (d : Dk) (g : Lg) : Prop where
  free : Free d
  half : g.half = (h : Int)
  frm : g.frm = placeP (h : Int) g.gen
  g0 : 1 ≤ g.gen
  g1 : g.gen ≤ 4294967295
  down : g.down = false
  end_ : g.end_ = ((lay g.gen g.snap g.recs).length : Int)
  fits : (lay g.gen g.snap g.recs).length ≤ h
  b1 : By g.snap
  b2 : ∀ r ∈ g.recs, By r
  l1 : g.snap.length ≤ 1048576
  l2 : ∀ r ∈ g.recs, r.length ≤ 1048576
  small : h ≤ 1000000
  disk : ∃ oth post, d.bs = (if g.gen % 2 = 0 then (lay g.gen g.snap g.recs ++ zs (h - (lay g.gen g.snap g.recs).length)) ++ (oth ++ post) else oth ++ ((lay g.gen g.snap g.recs ++ zs (h - (lay g.gen g.snap g.recs).length)) ++ post)) ∧ oth.length = h ∧ post.length + 2 * h = n ∧ By oth ∧ By post ∧ genOf oth ≤ g.gen
theorem lay_len (g : Int) (s : List Int) (rs : List (List Int)) : (lay g s rs).length = 16 + s.length + (frs g 1 rs).length := by unfold lay; rw [List.length_append, fr_len]
theorem lay_by {g : Int} {s : List Int} {rs : List (List Int)} (h1 : By s) (h2 : ∀ r ∈ rs, By r) : By (lay g s rs) := by_app.2 ⟨fr_by h1, frs_by h2⟩
theorem Laid.fit {n h : Nat} {d : Dk} {g : Lg} (hl : Laid n h d g) : Fit n g := by
  have h1 := hl.half
  have h2 := hl.frm
  have h3 := hl.end_
  have h4 := hl.fits
  have h5 := lay_len g.gen g.snap g.recs
  have h6 := frs_len (g := g.gen) (m := 1) (rs := g.recs)
  have h7 := hl.small
  obtain ⟨oth, post, _, h8, h9, _⟩ := hl.disk
  have h10 : 0 ≤ g.frm ∧ g.frm ≤ h := by rw [h2]; unfold placeP; split <;> omega
  exact ⟨by omega, by omega, by omega, by omega, by omega, by omega, hl.g0, hl.g1, by omega⟩
theorem placeP_even {h : Nat} {g : Int} (hg : g % 2 = 0) : placeP (h : Int) g = 0 := by unfold placeP; rw [if_pos hg]
theorem placeP_odd {h : Nat} {g : Int} (hg : ¬ g % 2 = 0) : placeP (h : Int) g = h := by unfold placeP; rw [if_neg hg]
/-- A look at a half that bears no greater generation. -/
theorem looks_no {g : Lg} {b : List Int} {at' : Int} (h : genOf b ≤ g.gen) : g.looks b at' = g := by unfold Lg.looks; rw [if_pos h]
theorem looks_yes {g : Lg} {gen at' : Int} {snap r : List Int} (hU : U gen) (h0 : gen ≠ 0) (hlt : g.gen < gen) (hp : placeP g.half gen = at') (hs : snap.length ≤ 1048576) (hb : By (fr gen 0 snap ++ r)) :
    g.looks (fr gen 0 snap ++ r) at' = { g with gen := gen, frm := at', end_ := (snap.length : Int) + 16, snap := snap } := by
  unfold Lg.looks
  rw [genOf_fr hU, if_neg (by omega), if_neg (by rw [hp]; simp), if_pos (good_fr hU ⟨by decide, by decide⟩ h0 hs hb), get4_fr hs, payload_fr hs]
theorem Laid.seen {n h : Nat} {d : Dk} {g : Lg} (hl : Laid n h d g) (h2 : h = n / 2) :
    ∃ own, own = lay g.gen g.snap g.recs ++ zs (h - (lay g.gen g.snap g.recs).length) ∧ By own ∧ ((d.bs.take (2 * h)).take (g.frm.toNat + h)).drop g.frm.toNat = own ∧ Lg.seen h (d.bs.take (2 * h)) = ⟨(h : Int), g.frm, (g.snap.length : Int) + 16, g.gen, g.snap, [], false⟩ := by
  obtain ⟨oth, post, hb, ho, hp, hby1, hby2, hq⟩ := hl.disk
  obtain ⟨own, hown⟩ : ∃ own, own = lay g.gen g.snap g.recs ++ zs (h - (lay g.gen g.snap g.recs).length) := ⟨_, rfl⟩
  have hol : own.length = h := by rw [hown, List.length_append, List.length_replicate]; have := hl.fits; omega
  have hob : By own := by rw [hown]; exact by_app.2 ⟨lay_by hl.b1 hl.b2, zeros_by _⟩
  have hof : own = fr g.gen 0 g.snap ++ (frs g.gen 1 g.recs ++ zs (h - (lay g.gen g.snap g.recs).length)) := by rw [hown, lay, List.append_assoc]
  rw [← hown] at hb
  have g0 := hl.g0
  have g1 := hl.g1
  have hU : U g.gen := ⟨by omega, g1⟩
  refine ⟨own, hown, hob, ?_, ?_⟩
  · by_cases he : g.gen % 2 = 0
    · rw [if_pos he] at hb
      rw [hl.frm, placeP_even he, hb]
      show (List.take (0 + h) _).drop 0 = own
      rw [List.drop_zero, Nat.zero_add, List.take_take, Nat.min_eq_left (by omega)]
      exact List.take_left' hol
    · rw [if_neg he] at hb
      rw [hl.frm, placeP_odd he, hb, Int.toNat_natCast, List.take_take, Nat.min_eq_left (by omega), ← List.append_assoc, List.take_left' (by rw [List.length_append, ho, hol]), List.drop_left' ho]
  · unfold Lg.seen
    by_cases he : g.gen % 2 = 0
    · rw [if_pos he] at hb
      have e1 : (d.bs.take (2 * h)).take h = own := by rw [hb, List.take_take, Nat.min_eq_left (by omega)]; exact List.take_left' hol
      have e2 : (d.bs.take (2 * h)).drop h = oth := by
        rw [hb, ← List.append_assoc, List.take_left' (by rw [List.length_append, ho, hol]; omega), List.drop_left' hol]
      rw [e1, e2, hof, looks_yes hU (by omega) (show (0 : Int) < g.gen by omega) (placeP_even he) hl.l1 (by rw [← hof]; exact hob), looks_no (g := ⟨(Lg.new h).half, 0, (g.snap.length : Int) + 16, g.gen, g.snap, (Lg.new h).recs, (Lg.new h).down⟩) hq, hl.frm, placeP_even he]
      rfl
    · rw [if_neg he] at hb
      have e1 : (d.bs.take (2 * h)).take h = oth := by rw [hb, List.take_take, Nat.min_eq_left (by omega)]; exact List.take_left' ho
      have e2 : (d.bs.take (2 * h)).drop h = own := by
        rw [hb, ← List.append_assoc, List.take_left' (by rw [List.length_append, ho, hol]; omega), List.drop_left' ho]
      rw [e1, e2]
      obtain ⟨s, hs⟩ : ∃ s, s = (Lg.new h).looks oth 0 := ⟨_, rfl⟩
      have hsh := ((Seen.new h).looks hby1 ho 0)
      have hsg : s.gen < g.gen := by
        rw [hs]
        unfold Lg.looks
        split
        · show (0 : Int) < g.gen
          omega
        · split
          · show (0 : Int) < g.gen
            omega
          · split
            · rename_i _ hpl _
              show genOf oth < g.gen
              have hpl2 : placeP (h : Int) (genOf oth) = 0 := Classical.not_not.1 hpl
              rcases Int.lt_or_eq_of_le hq with h3 | h3
              · exact h3
              · rw [h3, placeP_odd he] at hpl2
                have := hl.fits
                have := lay_len g.gen g.snap g.recs
                omega
            · show (0 : Int) < g.gen
              omega
      rw [← hs] at hsh ⊢
      obtain ⟨a1, a2, a3, a4, a5, a6, a7⟩ := s
      obtain rfl : a1 = (h : Int) := hsh.half
      obtain rfl : a6 = [] := hsh.recs
      obtain rfl : a7 = false := hsh.down
      rw [hof, looks_yes hU (by omega) hsg (placeP_odd he) hl.l1 (by rw [← hof]; exact hob), hl.frm, placeP_odd he]
theorem any_zs (c : Nat) : (zs c).any (fun x => x != 0) = false := by
  rw [List.any_eq_false]
  intro x hx
  rw [List.eq_of_mem_replicate hx]
  decide
/-- A log opened anew is the log, the disk as it was. -/
theorem Laid.opens {n h : Nat} {d : Dk} {g : Lg} (hl : Laid n h d g) (h2 : h = n / 2) (h64 : 64 ≤ h) : opens n d = (0, some g, d) := by
  obtain ⟨own, hown, hob, hrow, hseen⟩ := hl.seen h2
  have g0 := hl.g0
  have hU : U g.gen := ⟨by omega, hl.g1⟩
  have hll := lay_len g.gen g.snap g.recs
  have hfl := frs_len (g := g.gen) (m := 1) (rs := g.recs)
  have hft := hl.fits
  have hsm := hl.small
  have hdf := hl.down
  have hhf := hl.half
  have hef := hl.end_
  unfold Own.opens
  dsimp only
  rw [if_neg (by rw [hl.free.off]; simp), ← h2, if_neg (by omega), hseen]
  rw [if_neg (show ¬ g.gen = 0 by omega)]
  have hof : own = fr g.gen 0 g.snap ++ (frs g.gen ((([] : List (List Int)).length : Int) + 1) g.recs ++ zs (h - (lay g.gen g.snap g.recs).length)) := by
    rw [hown, lay, List.append_assoc]
    rfl
  have hra : readAll own g.gen (h + 1) ((g.snap.length : Int) + 16).toNat [] = ((lay g.gen g.snap g.recs).length, g.recs) := by
    have h5 := readAll_frs hU (by omega) g.recs (fr g.gen 0 g.snap) (zs (h - (lay g.gen g.snap g.recs).length)) [] h (by rw [← hof]; exact hob) hl.l2 (by simp; omega) (not_good_zs (by omega)) (by omega)
    rw [← hof, fr_len] at h5
    rw [show ((g.snap.length : Int) + 16).toNat = 16 + g.snap.length from by omega, h5, hll]
    rfl
  have hread : Lg.read ⟨(h : Int), g.frm, (g.snap.length : Int) + 16, g.gen, g.snap, [], false⟩ h (d.bs.take (2 * h)) = g := by
    unfold Lg.read
    simp only
    rw [hrow, hra]
    obtain ⟨a1, a2, a3, a4, a5, a6, a7⟩ := g
    simp only at hdf hhf hef ⊢
    rw [hdf, hhf, hef]
  rw [hread]
  have hrest : g.rest h (d.bs.take (2 * h)) = zs (h - (lay g.gen g.snap g.recs).length) := by
    unfold Lg.rest
    have h7 : 0 ≤ g.frm := by rw [hl.frm]; unfold placeP; split <;> omega
    rw [hef, show (g.frm + ((lay g.gen g.snap g.recs).length : Int)).toNat = g.frm.toNat + (lay g.gen g.snap g.recs).length from by omega, ← List.drop_drop, hrow, hown, List.drop_left' rfl]
  rw [hrest, any_zs, if_neg (by simp)]
/-- Bytes laid behind the last record. -/
theorem Laid.append {n h : Nat} {d : Dk} {g : Lg} (hl : Laid n h d g) {b : List Int} (hb : By b) (hlen : b.length ≤ 1048576) (hroom : (lay g.gen g.snap g.recs).length + 16 + b.length ≤ h) :
    ∃ g' d', g.append d b = (0, g', d') ∧ Laid n h d' g' ∧ g'.gen = g.gen ∧ g'.snap = g.snap ∧ g'.recs = g.recs ++ [b] := by
  obtain ⟨oth, post, hbs, ho, hp, hby1, hby2, hq⟩ := hl.disk
  have hef := hl.end_
  have hhf := hl.half
  have hft := hl.fits
  have g0 := hl.g0
  obtain ⟨lay0, hlay⟩ : ∃ x, x = lay g.gen g.snap g.recs := ⟨_, rfl⟩
  rw [← hlay] at hbs hef hft hroom
  obtain ⟨f, hf⟩ : ∃ x, x = fr g.gen ((g.recs.length : Int) + 1) b := ⟨_, rfl⟩
  have hfl : f.length = 16 + b.length := by rw [hf, fr_len]
  have hlay2 : lay g.gen g.snap (g.recs ++ [b]) = lay0 ++ f := by
    rw [hlay, hf]
    unfold lay
    rw [frs_snoc, ← List.append_assoc, show (1 : Int) + (g.recs.length : Int) = (g.recs.length : Int) + 1 from by omega]
  have hz : zs (h - lay0.length) = zs f.length ++ zs (h - (lay0 ++ f).length) := by
    simp only [zs, List.replicate_append_replicate, List.length_append]
    congr 1
    omega
  have hput : d.put (g.frm + g.end_).toNat f = (⟨(if g.gen % 2 = 0 then ((lay0 ++ f) ++ zs (h - (lay0 ++ f).length)) ++ (oth ++ post) else oth ++ (((lay0 ++ f) ++ zs (h - (lay0 ++ f).length)) ++ post)), false, -1, d.keep⟩, true) := by
    rw [put_free hl.free, hl.frm, hef]
    by_cases he : g.gen % 2 = 0
    · rw [if_pos he] at hbs ⊢
      rw [placeP_even he, show ((0 : Int) + (lay0.length : Int)).toNat = lay0.length from by omega, hbs, hz]
      have := splice_mid (a := lay0) (x := zs f.length) (c := zs (h - (lay0 ++ f).length) ++ (oth ++ post)) (b := f) (by simp)
      rw [show (lay0 ++ (zs f.length ++ zs (h - (lay0 ++ f).length))) ++ (oth ++ post) = lay0 ++ (zs f.length ++ (zs (h - (lay0 ++ f).length) ++ (oth ++ post))) by simp only [List.append_assoc], this]
      simp only [List.append_assoc]
    · rw [if_neg he] at hbs ⊢
      rw [placeP_odd he, show ((h : Int) + (lay0.length : Int)).toNat = (oth ++ lay0).length from by rw [List.length_append, ho]; omega, hbs, hz]
      have := splice_mid (a := oth ++ lay0) (x := zs f.length) (c := zs (h - (lay0 ++ f).length) ++ post) (b := f) (by simp)
      rw [show oth ++ ((lay0 ++ (zs f.length ++ zs (h - (lay0 ++ f).length))) ++ post) = (oth ++ lay0) ++ (zs f.length ++ (zs (h - (lay0 ++ f).length) ++ post)) by simp only [List.append_assoc], this]
      simp only [List.append_assoc]
  refine ⟨{ g with end_ := g.end_ + (16 + b.length), recs := g.recs ++ [b] }, ⟨(if g.gen % 2 = 0 then ((lay0 ++ f) ++ zs (h - (lay0 ++ f).length)) ++ (oth ++ post) else oth ++ (((lay0 ++ f) ++ zs (h - (lay0 ++ f).length)) ++ post)), false, -1, d.keep⟩, ?_, ?_, rfl, rfl, rfl⟩
  · unfold Lg.append
    rw [if_neg (by rw [hl.down, hl.free.off]; simp), if_neg (by unfold roomP; rw [hhf, hef]; split <;> omega), ← hf, hput]
    simp only [if_true]
  · refine ⟨⟨rfl, rfl⟩, hhf, hl.frm, g0, hl.g1, hl.down, ?_, ?_, hl.b1, ?_, hl.l1, ?_, hl.small, oth, post, ?_, ho, hp, hby1, hby2, hq⟩
    · simp only
      rw [hlay2, List.length_append, hfl, hef]
      omega
    · simp only
      rw [hlay2, List.length_append, hfl]
      omega
    · intro r hr
      rcases List.mem_append.1 hr with h1 | h1
      · exact hl.b2 r h1
      · rw [List.mem_singleton.1 h1]; exact hb
    · intro r hr
      rcases List.mem_append.1 hr with h1 | h1
      · exact hl.l2 r h1
      · rw [List.mem_singleton.1 h1]; exact hlen
    · simp only
      rw [hlay2]
/-- A snapshot laid down, in the other half. -/
theorem Laid.compact {n h : Nat} {d : Dk} {g : Lg} (hl : Laid n h d g) {b : List Int} (hb : By b) (hlen : b.length ≤ 1048576) (hroom : 16 + b.length ≤ h) (hgm : g.gen < 4294967295) :
    ∃ g' d', g.compact d b = (0, g', d') ∧ Laid n h d' g' ∧ g'.gen = g.gen + 1 ∧ g'.snap = b ∧ g'.recs = [] := by
  obtain ⟨oth, post, hbs, ho, hp, hby1, hby2, hq⟩ := hl.disk
  have hhf := hl.half
  have g0 := hl.g0
  obtain ⟨own, hown⟩ : ∃ own, own = lay g.gen g.snap g.recs ++ zs (h - (lay g.gen g.snap g.recs).length) := ⟨_, rfl⟩
  have hol : own.length = h := by rw [hown, List.length_append, List.length_replicate]; have := hl.fits; omega
  have hob : By own := by rw [hown]; exact by_app.2 ⟨lay_by hl.b1 hl.b2, zeros_by _⟩
  have hU : U g.gen := ⟨by omega, hl.g1⟩
  have hgo : genOf own = g.gen := by rw [hown, lay, List.append_assoc]; exact genOf_fr hU
  rw [← hown] at hbs
  obtain ⟨f, hf⟩ : ∃ x, x = fr (g.gen + 1) 0 b := ⟨_, rfl⟩
  have hfl : f.length = 16 + b.length := by rw [hf, fr_len]
  have hlay2 : lay (g.gen + 1) b [] = f := by rw [hf]; exact List.append_nil _
  have hzf : zs h = zs f.length ++ zs (h - f.length) := by
    simp only [zs, List.replicate_append_replicate]
    congr 1
    omega
  have hput1 : d.put (placeP (h : Int) (g.gen + 1)).toNat (List.replicate h 0) = (⟨(if g.gen % 2 = 0 then own ++ (zs h ++ post) else zs h ++ (own ++ post)), false, -1, d.keep⟩, true) := by
    rw [put_free hl.free]
    by_cases he : g.gen % 2 = 0
    · rw [if_pos he] at hbs ⊢
      rw [placeP_odd (by omega), Int.toNat_natCast, hbs]
      have := splice_mid (a := own) (x := oth) (c := post) (b := zs h) (by simp [ho])
      rw [hol] at this
      rw [this]
    · rw [if_neg he] at hbs ⊢
      rw [placeP_even (by omega), hbs]
      have := splice_mid (a := []) (x := oth) (c := own ++ post) (b := zs h) (by simp [ho])
      exact congrArg (fun x => ((⟨x, false, -1, d.keep⟩ : Dk), true)) this
  have hput2 : (⟨(if g.gen % 2 = 0 then own ++ (zs h ++ post) else zs h ++ (own ++ post)), false, -1, d.keep⟩ : Dk).put (placeP (h : Int) (g.gen + 1)).toNat f = (⟨(if g.gen % 2 = 0 then own ++ ((f ++ zs (h - f.length)) ++ post) else (f ++ zs (h - f.length)) ++ (own ++ post)), false, -1, d.keep⟩, true) := by
    rw [put_free ⟨rfl, rfl⟩]
    by_cases he : g.gen % 2 = 0
    · rw [if_pos he, if_pos he]
      rw [placeP_odd (by omega), Int.toNat_natCast, hzf]
      have := splice_mid (a := own) (x := zs f.length) (c := zs (h - f.length) ++ post) (b := f) (by simp)
      rw [hol] at this
      rw [show (zs f.length ++ zs (h - f.length)) ++ post = zs f.length ++ (zs (h - f.length) ++ post) from List.append_assoc .., this]
      simp only [List.append_assoc]
    · rw [if_neg he, if_neg he]
      rw [placeP_even (by omega), hzf]
      have := splice_mid (a := []) (x := zs f.length) (c := zs (h - f.length) ++ (own ++ post)) (b := f) (by simp)
      rw [show (zs f.length ++ zs (h - f.length)) ++ (own ++ post) = zs f.length ++ (zs (h - f.length) ++ (own ++ post)) from List.append_assoc ..]
      refine congrArg (fun x => ((⟨x, false, -1, d.keep⟩ : Dk), true)) (this.trans ?_)
      simp only [List.append_assoc, List.nil_append]
  refine ⟨{ g with gen := g.gen + 1, frm := placeP (h : Int) (g.gen + 1), end_ := 16 + b.length, snap := b, recs := [] }, ⟨(if g.gen % 2 = 0 then own ++ ((f ++ zs (h - f.length)) ++ post) else (f ++ zs (h - f.length)) ++ (own ++ post)), false, -1, d.keep⟩, ?_, ?_, rfl, rfl, rfl⟩
  · unfold Lg.compact
    rw [if_neg (by rw [hl.down, hl.free.off]; simp), if_neg (by rw [hhf]; omega), if_neg (by omega)]
    unfold Lg.begins
    rw [hhf, Int.toNat_natCast, ← hf, hput1]
    simp only [if_true]
    rw [hput2]
    simp only [if_true]
  · refine ⟨⟨rfl, rfl⟩, hhf, rfl, by show 1 ≤ g.gen + 1; omega, by show g.gen + 1 ≤ 4294967295; omega, hl.down, ?_, ?_, hb, (fun r hr => by cases hr), hlen, (fun r hr => by cases hr), hl.small, own, post, ?_, hol, hp, hob, hby2, ?_⟩
    · simp only
      rw [hlay2, hfl]
      omega
    · simp only
      rw [hlay2, hfl]
      exact hroom
    · simp only
      rw [hlay2]
      by_cases he : g.gen % 2 = 0
      · rw [if_pos he, if_neg (by omega)]
      · rw [if_neg he, if_pos (by omega)]
    · simp only
      rw [hgo]
      omega
theorem Laid.first {n h : Nat} (h2 : h = n / 2) (h64 : 64 ≤ h) (hs : h ≤ 1000000) : Laid n h (Dk.first n) (Lg.first n) := by
  subst h2
  have hlay : lay 1 [] [] = fr 1 0 [] := List.append_nil _
  have hfl : (fr 1 0 []).length = 16 := fr_len _ _ _
  have hz : zs (n - n / 2 - 16) = zs (n / 2 - 16) ++ zs (n - 2 * (n / 2)) := by
    simp only [zs, List.replicate_append_replicate]
    congr 1
    omega
  refine ⟨⟨rfl, rfl⟩, rfl, ?_, Int.le_refl 1, by show (1 : Int) ≤ 4294967295; decide, rfl, ?_, ?_, (fun x hx => by cases hx), (fun x hx => by cases hx), Nat.zero_le _, (fun x hx => by cases hx), hs, zs (n / 2), zs (n - 2 * (n / 2)), ?_, by simp, by simp; omega, zeros_by _, zeros_by _, ?_⟩
  · exact (placeP_odd (g := 1) (by decide)).symm
  · show (16 : Int) = ((lay 1 [] []).length : Int)
    rw [hlay, hfl]
    rfl
  · show (lay 1 [] []).length ≤ n / 2
    rw [hlay, hfl]
    omega
  · show zs (n / 2) ++ (fr 1 0 [] ++ zs (n - n / 2 - 16)) = if (1 : Int) % 2 = 0 then _ else zs (n / 2) ++ ((lay 1 [] [] ++ zs (n / 2 - (lay 1 [] []).length)) ++ zs (n - 2 * (n / 2)))
    rw [if_neg (by decide), hlay, hfl, hz, List.append_assoc]
  · rw [genOf_zs]
    show (0 : Int) ≤ 1
    decide
end Go.Proofs.YtndelndgioojgaaDoor.Own
