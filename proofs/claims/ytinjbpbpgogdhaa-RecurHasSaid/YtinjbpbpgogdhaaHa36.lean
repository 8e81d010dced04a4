-- own text: texts of this session merged by a program of it (merge.py), declarations that nothing reaches left out (prune.py)
import Derived.Test.YtinjbpbpgogdhaaHa35
import Derived.Lib.SmallJoins
import Derived.Deep.SlicePairs
import Derived.Deep.Grids
import Derived.WalkKit
import Derived.ProofKit
section
namespace Go.Proofs.Ytinjbpbpgogdhaa.Own
open Go.ChangeShapes Go.WideShapes Go.ChangeAt Go.RowKit Go.Deep Go.Joins Go.Proofs.YtinjbpbpgogdhaaW.PrintWords
set_option linter.unusedVariables false
/-! Arguments that came in, as the walk reads them: a rule, by value. -/
theorem maxLen_le : maxLen ≤ 9223372036854775807 := by decide
theorem array9 {α : Type} {cs : Array α} (h : cs.size = 9) : ∃ c0 c1 c2 c3 c4 c5 c6 c7 c8, cs = #[c0, c1, c2, c3, c4, c5, c6, c7, c8] := by
  obtain ⟨l⟩ := cs
  match l, h with
  | [c0, c1, c2, c3, c4, c5, c6, c7, c8], _ => exact ⟨c0, c1, c2, c3, c4, c5, c6, c7, c8, rfl⟩
section
variable {H : Type} {enc : TypeId × Value → H}
theorem open_agg9 {P : Program} {w : World} {base : Nat} {spare : Nat → Bool} {held : Bool} {r : Reach} {b0 : Nat} {t : TypeId} {f0 f1 f2 f3 f4 f5 f6 f7 f8 : Field} {v : Value} {d : DataW H} {p : List MemPlace} (hs : P.underlying t = some (.struct #[f0, f1, f2, f3, f4, f5, f6, f7, f8])) (hone : oneCellFields P #[f0, f1, f2, f3, f4, f5, f6, f7, f8] = true) (hC : P.cellsOf t = 9)
    (hv : Value.okWide P w r b0 t v) (h : DataW.Trod enc P w base spare held t v d p) :
    ∃ (v0 v1 v2 v3 v4 v5 v6 v7 v8 : Value) (y0 y1 y2 y3 y4 y5 y6 y7 y8 : DataW H × List MemPlace) (n : Nat), v = .agg #[v0, v1, v2, v3, v4, v5, v6, v7, v8] ∧ DataW.trod enc P w base spare held n f0.type [v0] = some y0 ∧ DataW.trod enc P w base spare held n f1.type [v1] = some y1 ∧ DataW.trod enc P w base spare held n f2.type [v2] = some y2 ∧ DataW.trod enc P w base spare held n f3.type [v3] = some y3 ∧ DataW.trod enc P w base spare held n f4.type [v4] = some y4 ∧ DataW.trod enc P w base spare held n f5.type [v5] = some y5 ∧ DataW.trod enc P w base spare held n f6.type [v6] = some y6 ∧ DataW.trod enc P w base spare held n f7.type [v7] = some y7 ∧ DataW.trod enc P w base spare held n f8.type [v8] = some y8 := by
  obtain ⟨cs, rfl, hsz⟩ := okWide_struct hs hv
  obtain ⟨c0, c1, c2, c3, c4, c5, c6, c7, c8, rfl⟩ := array9 (hsz.trans hC)
  obtain ⟨fuel, hf⟩ := h
  obtain ⟨xs, n, _, _, hl, hlen, hg⟩ := DataW.trod_struct hs hf
  obtain ⟨o0, k0⟩ := hone_of hone 0 f0 rfl
  obtain ⟨o1, k1⟩ := hone_of hone 1 f1 rfl
  obtain ⟨o2, k2⟩ := hone_of hone 2 f2 rfl
  obtain ⟨o3, k3⟩ := hone_of hone 3 f3 rfl
  obtain ⟨o4, k4⟩ := hone_of hone 4 f4 rfl
  obtain ⟨o5, k5⟩ := hone_of hone 5 f5 rfl
  obtain ⟨o6, k6⟩ := hone_of hone 6 f6 rfl
  obtain ⟨o7, k7⟩ := hone_of hone 7 f7 rfl
  obtain ⟨o8, k8⟩ := hone_of hone 8 f8 rfl
  match xs, hlen with
  | [y0, y1, y2, y3, y4, y5, y6, y7, y8], _ =>
    exact ⟨c0, c1, c2, c3, c4, c5, c6, c7, c8, y0, y1, y2, y3, y4, y5, y6, y7, y8, n, rfl, by simpa [Value.cells, o0, k0] using hg 0 f0 rfl, by simpa [Value.cells, o1, k1] using hg 1 f1 rfl, by simpa [Value.cells, o2, k2] using hg 2 f2 rfl, by simpa [Value.cells, o3, k3] using hg 3 f3 rfl, by simpa [Value.cells, o4, k4] using hg 4 f4 rfl, by simpa [Value.cells, o5, k5] using hg 5 f5 rfl, by simpa [Value.cells, o6, k6] using hg 6 f6 rfl, by simpa [Value.cells, o7, k7] using hg 7 f7 rfl, by simpa [Value.cells, o8, k8] using hg 8 f8 rfl⟩
theorem cells58 : Try.prog.cellsOf 58 = 2 := by kernel_rfl
theorem cells25 : Try.prog.cellsOf 25 = 9 := by kernel_rfl
theorem cellsInt3 : Try.prog.cellsOf 3 = 1 := by kernel_rfl
theorem rowInts {W : World} {A : Option Addr} {len cap : Nat} {x : DataW H × List MemPlace} (h : ∃ n, DataW.trod enc Try.prog W 0 (fun _ => true) true n 22 [.slice A len cap] = some x) :
    ∃ l : List Int, len = l.length ∧ Kd.C (Kd.int .i64) W A l.length l ∧ l.length ≤ cap := by
  obtain ⟨n, h⟩ := h
  rcases Go.ChangeShapes.open_ints Try.underlying22 Try.underlying3 cellsInt3 h with ⟨hc, _⟩ | ⟨a, len', cap', zs, hc, _, hl, hm, hz, _, hall, _⟩
  · simp only [List.cons.injEq, Value.slice.injEq, and_true] at hc
    obtain ⟨rfl, rfl, rfl⟩ := hc
    exact ⟨[], rfl, Kd.C_nil _ _, Nat.le_refl _⟩
  · simp only [List.cons.injEq, Value.slice.injEq, and_true] at hc
    obtain ⟨rfl, rfl, rfl⟩ := hc
    simp only [if_true] at hz
    have hmx := maxLen_le
    have hzl : (zs.take len).length = len := by rw [List.length_take]; omega
    refine ⟨zs.take len, hzl.symm, Kd.C_of_reads (d := (0 : Int)) (h1 := fun _ => rfl) ⟨rfl, by omega, fun _ => ⟨a, rfl, fun j hj => ?_⟩⟩, by omega⟩
    rw [hzl] at hj
    rw [hall j (by omega), List.getD_eq_getElem?_getD, List.getD_eq_getElem?_getD, List.getElem?_take, if_pos hj]
theorem row58 {W : World} {A : Option Addr} {len cap : Nat} {x : DataW H × List MemPlace} (h : ∃ n, DataW.trod enc Try.prog W 0 (fun _ => true) true n 23 [.slice A len cap] = some x) :
    ∃ l : List S58, len = l.length ∧ Kd.C k58 W A l.length l ∧ l.length ≤ cap := by
  obtain ⟨n, h⟩ := h
  rcases Go.Deep.open_slice_pairs Try.underlying23 Try.underlying58 cells58 rfl rfl cellsInt3 cellsInt3 h with ⟨hc, _⟩ | ⟨a, len', cap', m, k, V0, V1, D0, D1, P0, P1, hc, _, hl, hm, hmm, _, hall⟩
  · simp only [List.cons.injEq, Value.slice.injEq, and_true] at hc
    obtain ⟨rfl, rfl, rfl⟩ := hc
    exact ⟨[], rfl, Kd.C_nil _ _, Nat.le_refl _⟩
  · simp only [List.cons.injEq, Value.slice.injEq, and_true] at hc
    obtain ⟨rfl, rfl, rfl⟩ := hc
    simp only [if_true] at hmm
    subst hmm
    have hf : ∀ i, i < m → ∃ q : Int × Int, V0 i = .int .i64 q.1 ∧ V1 i = .int .i64 q.2 := by
      intro i hi
      obtain ⟨N0, h1, _⟩ := DataW.trod_int Try.underlying3 (hall i hi).2.2.1
      obtain ⟨N1, h2, _⟩ := DataW.trod_int Try.underlying3 (hall i hi).2.2.2
      simp only [List.cons.injEq, and_true] at h1 h2
      exact ⟨(N0, N1), h1, h2⟩
    obtain ⟨q, hq⟩ := Go.Deep.choose_lt hf
    have hmx := maxLen_le
    refine ⟨(List.range len).map fun i => ⟨(q i).1, (q i).2⟩, by simp, ⟨rfl, by simp; omega, fun _ => ⟨a, rfl, fun j p hj => ?_⟩⟩, by simpa using hl⟩
    obtain ⟨hj1, hj2⟩ := List.getElem?_eq_some_iff.1 hj
    simp only [List.length_map, List.length_range] at hj1
    simp only [List.getElem_map, List.getElem_range] at hj2
    subst hj2
    obtain ⟨e0, e1, _, _⟩ := hall j (by omega)
    rw [(hq j (by omega)).1] at e0
    rw [(hq j (by omega)).2] at e1
    refine ⟨_, rfl, k58_mk _ _, fun i u hu => ?_⟩
    show W.cell? (a.add (j * 2 + i)) = some u
    match i with
    | 0 => obtain rfl : Value.int .i64 (q j).1 = u := by simpa using hu
           exact e0
    | 1 => obtain rfl : Value.int .i64 (q j).2 = u := by simpa using hu
           exact e1
    | i + 2 => simp at hu
theorem i64_range {a : Int} (h : (Lit.int .i64 a).wf = true) : -9223372036854775808 ≤ a ∧ a ≤ 9223372036854775807 := by
  have h0 : IntKind.i64.min = -9223372036854775808 := by decide
  have h1 : IntKind.i64.max = 9223372036854775807 := by decide
  simp [Lit.wf, h0, h1] at h
  omega
/-- A rule that came in. -/
theorem open_rule {W : World} {b0 : Nat} {v : Value} {d : DataW H} {p : List MemPlace} (hv : Value.okWide Try.prog W .any b0 25 v) (h : DataW.Trod enc Try.prog W 0 (fun _ => true) true 25 v d p) :
    ∃ (a0 a1 a2 a3 a8 : Int) (A4 A5 A6 A7 : Option Addr) (c4 c5 c6 c7 : Nat) (l4 l5 l7 : List Int) (l6 : List S58), v = .agg #[.int .i64 a0, .int .i64 a1, .int .i64 a2, .int .i64 a3, .slice A4 l4.length c4, .slice A5 l5.length c5, .slice A6 l6.length c6, .slice A7 l7.length c7, .int .i64 a8] ∧ RB W A4 A5 A6 A7 c4 c5 c6 c7 l4 l5 l7 l6 := by
  obtain ⟨v0, v1, v2, v3, v4, v5, v6, v7, v8, y0, y1, y2, y3, y4, y5, y6, y7, y8, n, rfl, h0, h1, h2, h3, h4, h5, h6, h7, h8⟩ := open_agg9 Try.underlying25 (by kernel_rfl) cells25 hv h
  obtain ⟨a0, e0, _⟩ := DataW.trod_int Try.underlying3 h0
  obtain ⟨a1, e1, _⟩ := DataW.trod_int Try.underlying3 h1
  obtain ⟨a2, e2, _⟩ := DataW.trod_int Try.underlying3 h2
  obtain ⟨a3, e3, _⟩ := DataW.trod_int Try.underlying2 h3
  obtain ⟨a8, e8, _⟩ := DataW.trod_int Try.underlying3 h8
  obtain ⟨A4, n4, c4, e4⟩ := slice_form Try.underlying22 h4
  obtain ⟨A5, n5, c5, e5⟩ := slice_form Try.underlying22 h5
  obtain ⟨A6, n6, c6, e6⟩ := slice_form Try.underlying23 h6
  obtain ⟨A7, n7, c7, e7⟩ := slice_form Try.underlying22 h7
  simp only [List.cons.injEq, and_true] at e0 e1 e2 e3 e4 e5 e6 e7 e8
  subst e0 e1 e2 e3 e4 e5 e6 e7 e8
  obtain ⟨l4, rfl, r4, k4⟩ := rowInts ⟨n, h4⟩
  obtain ⟨l5, rfl, r5, k5⟩ := rowInts ⟨n, h5⟩
  obtain ⟨l6, rfl, r6, k6⟩ := row58 ⟨n, h6⟩
  obtain ⟨l7, rfl, r7, k7⟩ := rowInts ⟨n, h7⟩
  exact ⟨a0, a1, a2, a3, a8, A4, A5, A6, A7, c4, c5, c6, c7, l4, l5, l7, l6, rfl, r4, r5, r6, r7, k4, k5, k6, k7⟩
end
end Go.Proofs.Ytinjbpbpgogdhaa.Own
end
