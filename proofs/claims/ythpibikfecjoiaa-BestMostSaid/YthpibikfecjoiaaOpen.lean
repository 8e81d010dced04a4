import Derived.Test.YthpibikfecjoiaaOwnx0
import Derived.Deep.SlicePairs
import Derived.Deep.Grids
import Derived.WalkKit
import Derived.ProofKit
namespace Go.Proofs.Ythpibikfecjoiaa.Own
open Go.ChangeShapes Go.WideShapes Go.ChangeAt Go.RowKit Go.Proofs.YthpibikfecjoiaaW.PrintWords
set_option linter.unusedVariables false
/-! Arguments that came in, as the walk reads them: rows of structs of two whole numbers, rows of truth values. -/
theorem maxLen_le : maxLen ≤ 9223372036854775807 := by decide
section
variable {H : Type} {enc : TypeId × Value → H}
theorem cells33 : Try.prog.cellsOf 33 = 2 := by kernel_rfl
theorem cells39 : Try.prog.cellsOf 39 = 2 := by kernel_rfl
theorem cells31 : Try.prog.cellsOf 31 = 1 := by kernel_rfl
theorem cells3 : Try.prog.cellsOf 3 = 1 := by kernel_rfl
theorem cells4 : Try.prog.cellsOf 4 = 1 := by kernel_rfl
theorem row33 {W : World} {A : Option Addr} {len cap : Nat} {x : DataW H × List MemPlace} (h : ∃ n, DataW.trod enc Try.prog W 0 (fun _ => true) true n 22 [.slice A len cap] = some x) :
    ∃ l : List S33, len = l.length ∧ Kd.C k33 W A l.length l ∧ l.length ≤ cap := by
  obtain ⟨n, h⟩ := h
  rcases Go.Deep.open_slice_pairs Try.underlying22 Try.underlying33 cells33 rfl rfl cells31 cells3 h with ⟨hc, _⟩ | ⟨a, len', cap', m, k, V0, V1, D0, D1, P0, P1, hc, _, hl, hm, hmm, _, hall⟩
  · simp only [List.cons.injEq, Value.slice.injEq, and_true] at hc
    obtain ⟨rfl, rfl, rfl⟩ := hc
    exact ⟨[], rfl, Kd.C_nil _ _, Nat.le_refl _⟩
  · simp only [List.cons.injEq, Value.slice.injEq, and_true] at hc
    obtain ⟨rfl, rfl, rfl⟩ := hc
    simp only [if_true] at hmm
    subst hmm
    have hf : ∀ i, i < m → ∃ q : Int × Int, V0 i = .int .u32 q.1 ∧ V1 i = .int .i64 q.2 := by
      intro i hi
      obtain ⟨N0, h1, _⟩ := DataW.trod_int Try.underlying31 (hall i hi).2.2.1
      obtain ⟨N1, h2, _⟩ := DataW.trod_int Try.underlying3 (hall i hi).2.2.2
      simp only [List.cons.injEq, and_true] at h1 h2
      exact ⟨(N0, N1), h1, h2⟩
    obtain ⟨q, hq⟩ := Go.Deep.choose_lt hf
    have hmx := maxLen_le
    refine ⟨(List.range len).map fun i => ⟨(q i).1, (q i).2⟩, by simp, ⟨rfl, by simp; omega, fun _ => ⟨a, rfl, fun j p hj => ?_⟩⟩, by simpa using hl⟩
    obtain ⟨hj1, hj2⟩ := List.getElem?_eq_some_iff.1 hj
    simp only [List.length_map, List.length_range] at hj1
    simp only [List.getElem_map, List.getElem_range] at hj2
    subst hj2
    obtain ⟨e0, e1, _, _⟩ := hall j (by omega)
    rw [(hq j (by omega)).1] at e0
    rw [(hq j (by omega)).2] at e1
    refine ⟨_, rfl, k33_mk _ _, fun i u hu => ?_⟩
    show W.cell? (a.add (j * 2 + i)) = some u
    match i with
    | 0 => obtain rfl : Value.int .u32 (q j).1 = u := by simpa using hu
           exact e0
    | 1 => obtain rfl : Value.int .i64 (q j).2 = u := by simpa using hu
           exact e1
    | i + 2 => simp at hu
theorem row39 {W : World} {A : Option Addr} {len cap : Nat} {x : DataW H × List MemPlace} (h : ∃ n, DataW.trod enc Try.prog W 0 (fun _ => true) true n 24 [.slice A len cap] = some x) :
    ∃ l : List S39, len = l.length ∧ Kd.C k39 W A l.length l ∧ l.length ≤ cap := by
  obtain ⟨n, h⟩ := h
  rcases Go.Deep.open_slice_pairs Try.underlying24 Try.underlying39 cells39 rfl rfl cells31 cells31 h with ⟨hc, _⟩ | ⟨a, len', cap', m, k, V0, V1, D0, D1, P0, P1, hc, _, hl, hm, hmm, _, hall⟩
  · simp only [List.cons.injEq, Value.slice.injEq, and_true] at hc
    obtain ⟨rfl, rfl, rfl⟩ := hc
    exact ⟨[], rfl, Kd.C_nil _ _, Nat.le_refl _⟩
  · simp only [List.cons.injEq, Value.slice.injEq, and_true] at hc
    obtain ⟨rfl, rfl, rfl⟩ := hc
    simp only [if_true] at hmm
    subst hmm
    have hf : ∀ i, i < m → ∃ q : Int × Int, V0 i = .int .u32 q.1 ∧ V1 i = .int .u32 q.2 := by
      intro i hi
      obtain ⟨N0, h1, _⟩ := DataW.trod_int Try.underlying31 (hall i hi).2.2.1
      obtain ⟨N1, h2, _⟩ := DataW.trod_int Try.underlying31 (hall i hi).2.2.2
      simp only [List.cons.injEq, and_true] at h1 h2
      exact ⟨(N0, N1), h1, h2⟩
    obtain ⟨q, hq⟩ := Go.Deep.choose_lt hf
    have hmx := maxLen_le
    refine ⟨(List.range len).map fun i => ⟨(q i).1, (q i).2⟩, by simp, ⟨rfl, by simp; omega, fun _ => ⟨a, rfl, fun j p hj => ?_⟩⟩, by simpa using hl⟩
    obtain ⟨hj1, hj2⟩ := List.getElem?_eq_some_iff.1 hj
    simp only [List.length_map, List.length_range] at hj1
    simp only [List.getElem_map, List.getElem_range] at hj2
    subst hj2
    obtain ⟨e0, e1, _, _⟩ := hall j (by omega)
    rw [(hq j (by omega)).1] at e0
    rw [(hq j (by omega)).2] at e1
    refine ⟨_, rfl, k39_mk _ _, fun i u hu => ?_⟩
    show W.cell? (a.add (j * 2 + i)) = some u
    match i with
    | 0 => obtain rfl : Value.int .u32 (q j).1 = u := by simpa using hu
           exact e0
    | 1 => obtain rfl : Value.int .u32 (q j).2 = u := by simpa using hu
           exact e1
    | i + 2 => simp at hu
theorem rowBool {W : World} {A : Option Addr} {len cap : Nat} {x : DataW H × List MemPlace} (h : ∃ n, DataW.trod enc Try.prog W 0 (fun _ => true) true n 23 [.slice A len cap] = some x) :
    ∃ l : List Bool, len = l.length ∧ Kd.C Kd.bool W A l.length l ∧ l.length ≤ cap := by
  obtain ⟨n, h⟩ := h
  rcases Go.Deep.open_bools Try.underlying23 Try.underlying4 cells4 h with ⟨hc, _⟩ | ⟨a, len', cap', B, hc, _, hl, hm, _, hall⟩
  · simp only [List.cons.injEq, Value.slice.injEq, and_true] at hc
    obtain ⟨rfl, rfl, rfl⟩ := hc
    exact ⟨[], rfl, Kd.C_nil _ _, Nat.le_refl _⟩
  · simp only [List.cons.injEq, Value.slice.injEq, and_true] at hc
    obtain ⟨rfl, rfl, rfl⟩ := hc
    have hmx := maxLen_le
    refine ⟨(List.range len).map B, by simp, Kd.C_of_reads (d := false) (h1 := fun _ => rfl) ⟨rfl, by simp; omega, fun _ => ⟨a, rfl, fun j hj => ?_⟩⟩, by simpa using hl⟩
    simp only [List.length_map, List.length_range] at hj
    rw [hall j (by omega), List.getD_eq_getElem?_getD]
    simp [hj]
theorem rowInt {W : World} {A : Option Addr} {len cap : Nat} {x : DataW H × List MemPlace} (h : ∃ n, DataW.trod enc Try.prog W 0 (fun _ => true) true n 36 [.slice A len cap] = some x) :
    ∃ l : List Int, len = l.length ∧ Kd.C (Kd.int .i64) W A l.length l ∧ l.length ≤ cap := by
  obtain ⟨n, h⟩ := h
  rcases Go.ChangeShapes.open_ints Try.underlying36 Try.underlying3 cells3 h with ⟨hc, _⟩ | ⟨a, len', cap', zs, hc, _, hl, hm, hz, _, hall, _⟩
  · simp only [List.cons.injEq, Value.slice.injEq, and_true] at hc
    obtain ⟨rfl, rfl, rfl⟩ := hc
    exact ⟨[], rfl, Kd.C_nil _ _, Nat.le_refl _⟩
  · simp only [List.cons.injEq, Value.slice.injEq, and_true] at hc
    obtain ⟨rfl, rfl, rfl⟩ := hc
    simp only [if_true] at hz
    have hmx := maxLen_le
    have hzl : (zs.take len).length = len := by rw [List.length_take]; omega
    refine ⟨zs.take len, hzl.symm, Kd.C_of_reads (d := (0 : Int)) (h1 := fun _ => rfl) ⟨rfl, by omega, fun _ => ⟨a, rfl, fun j hj => ?_⟩⟩, by omega⟩
    rw [hzl] at hj
    rw [hall j (by omega), List.getD_eq_getElem?_getD, List.getD_eq_getElem?_getD, List.getElem?_take, if_pos hj]
theorem u8_range {a : Int} (h : (Lit.int .u8 a).wf = true) : 0 ≤ a ∧ a < 256 := by
  have h0 : IntKind.u8.min = 0 := by decide
  have h1 : IntKind.u8.max = 255 := by decide
  simp [Lit.wf, h0, h1] at h
  omega
end
end Go.Proofs.Ythpibikfecjoiaa.Own
