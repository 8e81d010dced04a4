import Derived.Test.YtinjbpbpgogdhaaRg3
namespace Go.Proofs.Ytinjbpbpgogdhaa.Own
open Go.RowKit Go.Shelf Go.Proofs.YtinjbpbpgogdhaaW.PrintWords Go.Proofs.YtinjbpbpgogdhaaW.PrintLast Go.Proofs.YtinjbpbpgogdhaaW.PrintMore
set_option linter.unusedVariables false
set_option linter.unusedSimpArgs false
theorem C_one {w : World} {g : Nat} {k : IntKind} {x : Int} {t : TypeId} (h : w.heap[g]? = some (.cells #[.int k x] t (0, 0))) : (Kd.int k).C w (some ⟨g, 0, none⟩) [x].length [x] := by
  refine ⟨rfl, by rw [List.length_singleton]; decide, fun _ => ⟨_, rfl, fun j p hp => ?_⟩⟩
  cases j with
  | succ j => simp at hp
  | zero =>
    have e : p = x := by simpa using hp.symm
    subst e
    refine ⟨[.int k p], rfl, rfl, fun i u hu => ?_⟩
    cases i with
    | succ i => simp at hu
    | zero =>
      have e : u = .int k p := by simpa using hu.symm
      subst e
      exact cell_eq (blk_cell h 0) rfl
theorem owns_C {w : World} {n0 e : Nat} {k : IntKind} {A : Option Addr} {c : Nat} {l : List Int} (h : w.ownsRow n0 e 1 (.slice A l.length c) l.length (l.map (Value.int k))) (hm : l.length ≤ 44400000) : (Kd.int k).C w A l.length l := by
  refine ⟨rfl, by omega, fun hp => ?_⟩
  rcases h.2 with ⟨h1, h2⟩ | ⟨g, cap, cur, h1, h2, h3, h4, h5, h6, h7⟩
  · omega
  · injection h1 with h8 h9 h10
    refine ⟨_, h8, fun j p hp => ⟨[.int k p], rfl, rfl, fun i u hu => ?_⟩⟩
    cases i with
    | succ i => simp at hu
    | zero =>
      have e : u = .int k p := by simpa using hu.symm
      subst e
      have hj : j < l.length := (List.getElem?_eq_some_iff.1 hp).1
      have hcur : cur[j]? = some (.int k p) := by
        have h8 : (cur.toList.take (l.length * 1))[j]? = some (.int k p) := by
          rw [h7, List.getElem?_map, hp]
          rfl
        rw [List.getElem?_take, if_pos (by omega)] at h8
        simpa using h8
      have e2 : (⟨g, 0, none⟩ : Addr).add (j * (Kd.int k).sz + 0) = ⟨g, j, none⟩ := by
        have : j * (Kd.int k).sz + 0 = j := by show j * 1 + 0 = j; omega
        rw [this]
        simp [Addr.add]
        try omega
      rw [e2]
      exact cell_eq (blk_cell h3 j) hcur
theorem fix_may : mayB 3 1 0 (-1) [] [31] [] [] 0 = true := by decide
set_option maxHeartbeats 4000000 in
set_option maxRecDepth 100000 in
/-- fixed answers true. -/
theorem fixed_any (w : World) : Calls Try.prog 6 #[] w fun e w' => e = .returned (.bool true) ∧ Below w.heap.size w w' := by
  have HN := Lib.hid (fun W => vespersref01_Number.calls 500 2026 1 31 46051 true W (by rw [ref_Number_ok (by decide) (by unfold Ok; decide), num_fix]))
  go_enter Try.func6, Try.ntmps6
  go_upto_region 3 with (first | ((with_reducible refine (HN.out _).mono ?_); rintro e w2 ⟨rfl, hb2⟩; have HB2 := Lib.hid hb2; clear hb2))
  have HX : Hid (∀ g W, W.heap[g]? = some (.cells #[.int .i64 31] 3 (0, 0)) → Calls Try.prog 8 #[.agg #[.int .i64 3, .int .i64 1, .int .i64 0, .int .i64 (-1), .slice none 0 0, .slice (some ⟨g, 0, none⟩) 1 1, .slice none 0 0, .slice none 0 0, .int .i64 0], .int .i64 66313440, .int .i64 0, .int .i64 66443040, .int .i64 9] W (BetPost W ([66313440, 66398400], true))) := Lib.hid (fun g W hg => by
    have hR : RC W none (some ⟨g, 0, none⟩) none none 0 1 0 0 [] [31] [] [] := ⟨Kd.C_nil _ _, C_one hg, Kd.C_nil _ _, Kd.C_nil _ _, Nat.le_refl _, Nat.le_refl _, Nat.le_refl _, Nat.le_refl _, by decide, by decide, by decide, by decide⟩
    have hdd : (66313440 : Int) / 1440 = 46051 := by decide
    have hmm : (66313440 : Int) % 1440 = 0 := by decide
    have hB := between_any (Y := 2026) (M := 1) (D := 31) 0 _ 66313440 0 66443040 9 W hR fix_may (by decide) (by decide) (by rw [hdd, ← num_fix]; exact civil_Date_num (by decide) (by unfold Ok; decide)) (by decide) (by decide) (fun g' W' hW' => (first_zero 0 hW' (by decide) (by decide) (by decide) (by decide) (.inr (by decide))).mono (fun e w' h => ⟨h.1, by rw [h.2]; exact Below.refl _ _⟩)) rfl (by decide) (by decide) (by decide) (by decide)
    rw [hdd, hmm] at hB
    rw [← fix_plain]
    exact hB)
  go_upto_region 4 with (first | ((with_reducible refine (HX.out _ _ (alloc_blk _ _ _)).mono ?_); rintro e w4 ⟨v, rfl, hown, hb4⟩; have HO := Lib.hid hown; have HB4 := Lib.hid hb4; clear hown hb4))
  have HB0 := Lib.hid (HB2.out.trans ((below_new_.trans (HB4.out.mono (below_new_ (w := w2) (o := (.cells #[.int .i64 31] 3))).size)).mono HB2.out.size))
  obtain ⟨gg, cap, rfl⟩ := ownsRow_succ (k := 1) HO.out
  have HC := Lib.hid (owns_C (c := cap) HO.out (by decide))
  obtain ⟨ad, e, h0⟩ := Kd.at_int HC.out 0 (by decide) (by decide)
  obtain rfl : _ = ad := Option.some.inj e
  obtain ⟨ad', e', h1⟩ := Kd.at_int HC.out 1 (by decide) (by decide)
  obtain rfl : _ = ad' := Option.some.inj e'
  have q0 : w4.cell? ⟨gg, 0, none⟩ = some (.int .i64 66313440) := h0
  have q1 : w4.cell? ⟨gg, 1, none⟩ = some (.int .i64 66398400) := h1
  clear h0 h1 e e'
  go_wp2
  go_ret
  exact ⟨rfl, HB0.out⟩
end Go.Proofs.Ytinjbpbpgogdhaa.Own
