import Derived.Test.YthpibikfecjoiaaMay2
import Derived.Test.YthpibikfecjoiaaBst5
import Derived.Test.YthpibikfecjoiaaOwnx5
namespace Go.Proofs.Ythpibikfecjoiaa.Own
open Go.RowKit Go.Proofs.YthpibikfecjoiaaW.PrintWords Go.Proofs.YthpibikfecjoiaaW.PrintLast Go.Proofs.YthpibikfecjoiaaW.PrintMore
set_option linter.unusedVariables false
set_option linter.unusedSimpArgs false
theorem cidx_f (l : List Int) (a : Int) (hl : l.length ≤ 1000000) (n : Nat) : ∀ (k i : Nat), n + 1 ≤ k → i ≤ l.length → l.length - i = n → ∃ r, slices_Index_int_int.l0 k l a (l.length : Int) (i : Int) = some r ∧ decide (r ≥ 0) = (l.drop i).any fun x => a == x := by
  induction n with
  | zero =>
    intro k i hk hi hn
    obtain ⟨k, rfl⟩ : ∃ k', k = k' + 1 := ⟨k - 1, by omega⟩
    refine ⟨-1, ?_, ?_⟩
    · rw [slices_Index_int_int.l0, if_neg (by omega)]
    · rw [List.drop_eq_nil_of_le (by omega)]; rfl
  | succ n ih =>
    intro k i hk hi hn
    obtain ⟨k, rfl⟩ : ∃ k', k = k' + 1 := ⟨k - 1, by omega⟩
    have hil : i < l.length := by omega
    have er : rd l (i : Int) = l[i] := by
      unfold rd
      rw [Int.toNat_natCast, List.getD_eq_getElem?_getD, List.getElem?_eq_getElem hil]
      rfl
    rw [slices_Index_int_int.l0, if_pos (by omega), if_pos (by omega), if_pos (by omega), er, List.drop_eq_getElem_cons hil, List.any_cons]
    by_cases c : a = l[i]
    · rw [if_pos c]
      exact ⟨_, rfl, by rw [decide_eq_true (by omega), c]; simp⟩
    · rw [if_neg c, show wrap64 ((i : Int) + 1) = ((i + 1 : Nat) : Int) from by unfold wrap64; omega]
      obtain ⟨r, h1, h2⟩ := ih k (i + 1) (by omega) (by omega) (by omega)
      refine ⟨r, h1, ?_⟩
      rw [h2, show (a == l[i]) = false from by simpa using c, Bool.false_or]
theorem cont_f (l : List Int) (a : Int) (hl : l.length ≤ 1000000) : slices_Contains_int_int.f (l.length + 1) l a = some (l.any fun x => a == x) := by
  obtain ⟨r, h1, h2⟩ := cidx_f l a hl l.length (l.length + 1) 0 (by omega) (by omega) (by omega)
  unfold slices_Contains_int_int.f slices_Index_int_int.f
  rw [show (0 : Int) = ((0 : Nat) : Int) from rfl, h1]
  simp only [Option.bind_some]
  rw [List.drop_zero] at h2
  rw [← h2]
  rfl
theorem alloc_blk (w : World) (cs : Array Value) (t : TypeId) : (w.alloc (.cells cs t)).heap[w.heap.size]? = some (.cells cs t (0, 0)) := by
  show (w.heap.push _)[w.heap.size]? = _
  simp
theorem alloc_size (w : World) (o : Obj) : (w.alloc o).heap.size = w.heap.size + 1 := by
  show (w.heap.push _).size = _
  simp
/-- May the place that stands at j come behind those ahead of it? -/
def mayOk (nb : Int → Int → Bool) (l : List S33) (can : List Bool) (places : List Int) (j : Nat) : Bool :=
  decide (0 ≤ rd places (j : Int)) && (decide (rd places (j : Int) < (l.length : Int)) && (decide (rd places (j : Int) < (can.length : Int)) && (rdOf false can (rd places (j : Int)) &&
    (!((places.take j).any fun x => rd places (j : Int) == x) && !((places.take j).any fun x => nb (rd_T33 l (rd places (j : Int))).f0 (rd_T33 l x).f0)))))
def mayP (nb : Int → Int → Bool) (l : List S33) (can : List Bool) (seats : Int) (places : List Int) : Bool :=
  !(decide (seats ≥ 0) && decide ((places.length : Int) > seats)) && (List.range places.length).all (mayOk nb l can places)
theorem may_no {nb : Int → Int → Bool} {l : List S33} {can : List Bool} {seats : Int} {places : List Int} {j : Nat} (hj : j < places.length) (h : mayOk nb l can places j = false) : mayP nb l can seats places = false := by
  unfold mayP
  have : (List.range places.length).all (mayOk nb l can places) = false := by
    rw [List.all_eq_false]
    exact ⟨j, List.mem_range.2 hj, by rw [h]; simp⟩
  rw [this, Bool.and_false]
theorem all_range_succ {p : Nat → Bool} {j : Nat} (h : (List.range j).all p = true) (hj : p j = true) : (List.range (j + 1)).all p = true := by
  rw [List.range_succ, List.all_append, h, Bool.true_and]
  simp [hj]
theorem may_range {nb : Int → Int → Bool} {l : List S33} {can : List Bool} {places : List Int} {j : Nat} (hj : j ≤ places.length) (h : (List.range j).all (mayOk nb l can places) = true) : ∀ x ∈ places.take j, 0 ≤ x ∧ x < (l.length : Int) := by
  intro x hx
  obtain ⟨i, hi, rfl⟩ := List.getElem_of_mem hx
  rw [List.length_take] at hi
  rw [List.getElem_take]
  have h1 := List.all_eq_true.1 h i (List.mem_range.2 (by omega))
  unfold mayOk at h1
  simp only [Bool.and_eq_true, decide_eq_true_eq] at h1
  have er : rd places (i : Int) = places[i] := by
    unfold rd
    rw [Int.toNat_natCast, List.getD_eq_getElem?_getD, List.getElem?_eq_getElem (by omega)]
    rfl
  rw [er] at h1
  exact ⟨h1.1, h1.2.1⟩
def MayRel (wE : World) (nb : Int → Int → Bool) (l : List S33) (can : List Bool) (places : List Int) (i : Value) (wr : World) : Prop :=
  ∃ j : Nat, j ≤ places.length ∧ i = .int .i64 j ∧ Hid ((List.range j).all (mayOk nb l can places) = true) ∧ Hid (Below wE.heap.size wE wr)
noncomputable def my6 : Code := (Try.f9.body.bind (regC 6)).getD .skip
end Go.Proofs.Ythpibikfecjoiaa.Own
