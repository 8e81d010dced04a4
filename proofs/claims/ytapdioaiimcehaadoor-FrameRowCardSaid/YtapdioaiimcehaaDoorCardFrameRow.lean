/-
  THE TIED CARD of FrameRow: frames of one generation, of numbers that follow, one behind the other, are read one by one. No condition; the one listed variable (the sum's table) is tied to the program's text.
-/
import Derived.Test.YtapdioaiimcehaaDoorRows
import Derived.Test.YtapdioaiimcehaaDoorRwx2
import Derived.Test.YtapdioaiimcehaaDoorPureFrameRow
import Derived.Test.YtapdioaiimcehaaDoorCards
import Derived.Test.YtapdioaiimcehaaDoorTie
import Derived.Deep.Matrix
import Derived.WalkKit
import Derived.Deep.DeepHandedRow
import Derived.Lib.LaidTab
import Derived.ProofKit
import Derived.OpenShut
import Derived.ShutString
import Derived.ChangeOld
import Derived.Below
import Derived.SizedLaws
import Derived.Test.YtapdioaiimcehaaDoorWSized
namespace Go.Proofs.YtapdioaiimcehaaDoor.frameRow
open Go.ChangeShapes Go.WideShapes Go.ChangeAt Go.RowKit
open Go.ChangeMaps (open_string shut_string)
open Go.Proofs.YtapdioaiimcehaaDoorW.PrintWords Go.Proofs.YtapdioaiimcehaaDoorW.PrintLast Go.Proofs.YtapdioaiimcehaaDoorW.PrintMore
set_option linter.unusedVariables false
theorem own : ownKnob Tryd.prog.godebug = none := by kernel_rfl
theorem laidOut : laidOutB Tryd.prog = true := by kernel_rfl
def IsRow (k : IntKind) (w : World) (a : Option Addr) (len cap : Nat) (zs : List Int) : Prop :=
  (a = none ∧ len = 0 ∧ cap = 0 ∧ zs = []) ∨
  ∃ x, a = some x ∧ len ≤ cap ∧ cap ≤ maxLen ∧ zs.length = cap ∧ (∀ i, i < zs.length → w.cell? (x.add i) = some (.int k (zs.getD i 0))) ∧ ∀ n ∈ zs, (Lit.int k n).wf = true
theorem gTab : Tryd.prog.globalNamed "vespers/crc.table" = some 0 := by kernel_rfl
theorem gTabType : (Tryd.prog.globals[0]?).map (·.type) = some 48 := by kernel_rfl
theorem cellsTab : Tryd.prog.cellsOf 48 = 16 := by kernel_rfl
theorem cellsOne : Tryd.prog.cellsOf 23 = 1 := by kernel_rfl
/-- What the row's list gives: the table's cells hold its sixteen numbers. -/
theorem table {W : World} (h : laidMetH Tryd.prog Rows.frameRowRow.laid W) : Lib.TabIs Tryd.prog W "vespers/crc.table" .u32 [0, 498536548, 997073096, 651767980, 1994146192, 1802195444, 1303535960, 1342533948, 3988292384, 4027552580, 3604390888, 3412177804, 2607071920, 2262029012, 2685067896, 3183342108] :=
  Lib.tabIs_of_head (rest := []) gTab gTabType Tryd.underlying48 Tryd.underlying23 cellsOne cellsTab h
theorem tbl {W : World} (h : laidMetH Tryd.prog Rows.frameRowRow.laid W) : Go.Proofs.YtapdioaiimcehaaDoorW.PrintWords.Aside0 (Rw.Tbl W) := ⟨fun i hi => by
  have : i = 0 ∨ i = 1 ∨ i = 2 ∨ i = 3 ∨ i = 4 ∨ i = 5 ∨ i = 6 ∨ i = 7 ∨ i = 8 ∨ i = 9 ∨ i = 10 ∨ i = 11 ∨ i = 12 ∨ i = 13 ∨ i = 14 ∨ i = 15 := by omega
  rcases this with rfl | rfl | rfl | rfl | rfl | rfl | rfl | rfl | rfl | rfl | rfl | rfl | rfl | rfl | rfl | rfl
  · exact (table h).cell gTab 0 (by decide)
  · exact (table h).cell gTab 1 (by decide)
  · exact (table h).cell gTab 2 (by decide)
  · exact (table h).cell gTab 3 (by decide)
  · exact (table h).cell gTab 4 (by decide)
  · exact (table h).cell gTab 5 (by decide)
  · exact (table h).cell gTab 6 (by decide)
  · exact (table h).cell gTab 7 (by decide)
  · exact (table h).cell gTab 8 (by decide)
  · exact (table h).cell gTab 9 (by decide)
  · exact (table h).cell gTab 10 (by decide)
  · exact (table h).cell gTab 11 (by decide)
  · exact (table h).cell gTab 12 (by decide)
  · exact (table h).cell gTab 13 (by decide)
  · exact (table h).cell gTab 14 (by decide)
  · exact (table h).cell gTab 15 (by decide)⟩
/-- A world for the witness: the settled one, the table (block 0) holding what its initialiser lays. -/
noncomputable def laidWorld (os : Os) : World :=
  { World.holding Tryd.prog os ⟨#[], #[], []⟩ with heap := (World.holding Tryd.prog os ⟨#[], #[], []⟩).heap.modify 0 fun
      | .cells _ t frozen => .cells #[.int .u32 0, .int .u32 498536548, .int .u32 997073096, .int .u32 651767980, .int .u32 1994146192, .int .u32 1802195444, .int .u32 1303535960, .int .u32 1342533948, .int .u32 3988292384, .int .u32 4027552580, .int .u32 3604390888, .int .u32 3412177804, .int .u32 2607071920, .int .u32 2262029012, .int .u32 2685067896, .int .u32 3183342108] t frozen
      | o => o }
theorem laid_met (os : Os) : laidMet Tryd.prog Rows.frameRowRow.laid ((laidWorld os).forCall (fun _ _ => 0) ⟨#[], #[.int .u32 0, .slice none 0 0, .slice none 0 0], []⟩).memory :=
  laidMet_of_run' 8 (by kernel_rfl) (by kernel_rfl)
theorem reads (os : Os) {H : Type} (enc : TypeId × Value → H) : ∃ places, DataW.whole enc Tryd.prog ((laidWorld os).forCall (fun _ _ => 0) ⟨#[], #[.int .u32 0, .slice none 0 0, .slice none 0 0], []⟩).memory Tryd.f6.params.toList Rows.frameRowSpec.vars false (#[.int .u32 0, .slice none 0 0, .slice none 0 0] : Array Value).toList 8 = some ([.lit (.int .u32 0), .nil, .nil], [], places) :=
  ⟨[], by kernel_rfl⟩
/-- A row of rows that came in, as the walk reads it. -/
theorem rows_C {w : World} {a : Addr} {len cap : Nat} {A : Nat → Option Addr} {L C : Nat → Nat} {Z : Nat → List Int} (hl : len ≤ cap) (hm : cap ≤ maxLen)
    (h : ∀ r, r < cap → w.cell? (a.add r) = some (.slice (A r) (L r) (C r)) ∧ L r ≤ C r ∧ C r ≤ maxLen ∧ (Z r).length = C r ∧ (A r = none → C r = 0) ∧ ∀ a', A r = some a' → ∀ c, c < C r → w.cell? (a'.add c) = some (.int .u8 ((Z r).getD c 0))) :
    Kd.C (Kd.slice 5 (Kd.int .u8)) w (some a) ((List.range len).map fun r => (Z r).take (L r)).length ((List.range len).map fun r => (Z r).take (L r)) := by
  have hmax : maxLen ≤ 9223372036854775807 := by decide
  refine ⟨rfl, by simp only [List.length_map, List.length_range]; omega, fun _ => ⟨a, rfl, fun j p hj => ?_⟩⟩
  obtain ⟨hj1, hj2⟩ := List.getElem?_eq_some_iff.1 hj
  simp only [List.length_map, List.length_range] at hj1
  simp only [List.getElem_map, List.getElem_range] at hj2
  subst hj2
  obtain ⟨e1, e2, e3, e4, e5, e6⟩ := h j (by omega)
  have hp : ((Z j).take (L j)).length = L j := by rw [List.length_take]; omega
  refine ⟨[.slice (A j) (L j) (C j)], rfl, ⟨A j, C j, by rw [hp], by rw [hp]; exact e2, ?_⟩, fun i u hu => ?_⟩
  · refine Kd.C_of_reads (d := (0 : Int)) (h1 := fun _ => rfl) ⟨rfl, by rw [hp]; omega, fun hn => ?_⟩
    rw [hp] at hn
    cases hA : A j with
    | none => have := e5 hA; omega
    | some ad =>
      refine ⟨ad, rfl, fun i hi => ?_⟩
      rw [hp] at hi
      rw [e6 ad hA i (by omega)]
      congr 2
      rw [List.getD_eq_getElem?_getD, List.getD_eq_getElem?_getD, List.getElem?_take, if_pos hi]
  · have : i = 0 := by
      obtain ⟨hi, _⟩ := List.getElem?_eq_some_iff.1 hu
      simpa using hi
    subst this
    obtain rfl : Value.slice (A j) (L j) (C j) = u := by simpa using hu
    show w.cell? (a.add (j * 1 + 0)) = _
    rw [Nat.mul_one, Nat.add_zero]
    exact e1
theorem rows_wf {len : Nat} {L : Nat → Nat} {Z : Nat → List Int} (h : ∀ r, r < len → ∀ n ∈ Z r, (Lit.int .u8 n).wf = true) : ∀ p ∈ (List.range len).map fun r => (Z r).take (L r), ∀ x ∈ p, (Lit.int .u8 x).wf = true := by
  intro p hp x hx
  obtain ⟨r, hr, rfl⟩ := List.mem_map.1 hp
  exact h r (List.mem_range.1 hr) x (List.mem_of_mem_take hx)
theorem contract (H : Type) (enc : TypeId × Value → H) (W : World) (base : Nat) (args : Array Value) (ds gs : List (DataW H)) (before : List MemPlace)
    (hval : ∀ (j : Nat) t v, Tryd.f6.params[j]? = some t → args[j]? = some v → Value.okWide Tryd.prog W .any base t v)
    (hW : DataW.Whole enc Tryd.prog Tryd.f6.params.toList Rows.frameRowSpec.vars false W args.toList ds gs before)
    (hsz0 : (DataW.weightsEach Tryd.prog (Tryd.f6.params.toList ++ Rows.frameRowSpec.plain.varTypes Tryd.prog) (ds ++ gs)).all (· ≤ reachBytes) = true) (hL : laidMetH Tryd.prog Rows.frameRowRow.laid W) :
    Calls Tryd.prog 6 args W fun e W' => ∃ v, e = .returned v ∧ Rows.frameRowSpec.post enc Tryd.prog Tryd.f6 false true false false W args v W' := by
  have hsz : (DataW.weightsEach Tryd.prog (Tryd.f6.params.toList ++ Rows.frameRowSpec.plain.varTypes Tryd.prog) (ds ++ gs)).all (· ≤ reachBytes) = true := hsz0
  have hW' := hW
  obtain ⟨p, q, hA0, hV, rfl, hfz, hnd⟩ := hW
  have hA : DataW.TrodAll enc Tryd.prog W 0 (fun _ => true) true Tryd.f6.params.toList args.toList ds p := hA0
  rw [Tryd.params6] at hA hval hsz
  obtain ⟨v0, vs0, d0, ds0, p0, q0, hargs, rfl, rfl, h0, r0⟩ := trodAll_cons hA
  obtain ⟨v1, vs1, d1, ds1, p1, q1, rfl, rfl, rfl, h1, r1⟩ := trodAll_cons r0
  obtain ⟨v2, vs2, d2, ds2, p2, q2, rfl, rfl, rfl, h2, r2⟩ := trodAll_cons r1
  obtain ⟨rfl, rfl, rfl⟩ := trodAll_nil r2
  obtain rfl : args = #[v0, v1, v2] := by cases args; simp_all
  obtain ⟨rfl, rfl⟩ := trodVars_none hV
  obtain ⟨a0, rfl, rfl, rfl, w0⟩ := open_int Tryd.underlying23 (hval 0 23 v0 rfl rfl) h0
  obtain ⟨a1, len1, cap1, rfl⟩ := okWide_slice Tryd.underlying38 (hval 1 38 v1 rfl rfl)
  have k1 := h1
  have lt1 : ∀ x ∈ p1, x.block < W.heap.size := by obtain ⟨m, hm⟩ := k1; exact DataW.trod_lt m _ _ _ hm
  obtain ⟨l1, hl1, hr1, hc1, hw1⟩ : ∃ l1 : List (List Int), len1 = l1.length ∧ Kd.C (Kd.slice 5 (Kd.int .u8)) W a1 l1.length l1 ∧ l1.length ≤ cap1 ∧ ∀ p ∈ l1, ∀ x ∈ p, (Lit.int .u8 x).wf = true := by
    obtain ⟨fuel, hf⟩ := h1
    rcases Go.Deep.open_int_rows Tryd.underlying38 Tryd.underlying22 Tryd.underlying5 (by kernel_rfl) (by kernel_rfl) hf with ⟨hcs, _⟩ | ⟨a, l, c, A, L, C, Z, hcs, _, hl, hm, _, hrow⟩
    · simp [Value.cells] at hcs
      obtain ⟨rfl, rfl, rfl⟩ := hcs
      exact ⟨[], rfl, Kd.C_nil _ _, Nat.le_refl _, fun p hp => by cases hp⟩
    · simp [Value.cells] at hcs
      obtain ⟨rfl, rfl, rfl⟩ := hcs
      exact ⟨_, (by simp), rows_C hl hm (fun r hr => ⟨(hrow r hr).1, (hrow r hr).2.1, (hrow r hr).2.2.1, (hrow r hr).2.2.2.1, (hrow r hr).2.2.2.2.2.1, fun a' ha => ((hrow r hr).2.2.2.2.2.2 a' ha).2⟩), by simpa using hl, rows_wf (fun r hr => (hrow r (Nat.lt_of_lt_of_le hr hl)).2.2.2.2.1)⟩
  subst hl1
  obtain ⟨a2, len2, cap2, rfl⟩ := okWide_slice Tryd.underlying22 (hval 2 22 v2 rfl rfl)
  have k2 := h2
  have lt2 : ∀ x ∈ p2, x.block < W.heap.size := by obtain ⟨m, hm⟩ := k2; exact DataW.trod_lt m _ _ _ hm
  obtain ⟨z2, w2⟩ : ∃ zs, IsRow .u8 W a2 len2 cap2 zs := by
    obtain ⟨fuel, hf⟩ := h2
    rcases open_ints Tryd.underlying22 Tryd.underlying5 (by kernel_rfl) hf with ⟨hcs, _⟩ | ⟨x, l, c, zs, hcs, _, hl, hm, hz, _, hcell, hwz⟩
    · simp [Value.cells] at hcs
      obtain ⟨rfl, rfl, rfl⟩ := hcs
      exact ⟨[], .inl ⟨rfl, rfl, rfl, rfl⟩⟩
    · simp [Value.cells] at hcs
      obtain ⟨rfl, rfl, rfl⟩ := hcs
      exact ⟨zs, .inr ⟨_, rfl, hl, hm, by simpa using hz, hcell, hwz⟩⟩
  obtain ⟨l2, rfl, hr2, _, hw2, hc2⟩ := ReadsInt.ofRowC w2
  obtain ⟨k, hk⟩ := Pure.FrameRow w0 l1 l2 hw1 hw2
  clear hA0 hsz
  refine (Rw.vesperslaw06_FrameRow.calls k a0 a1 cap1 l1 a2 cap2 l2 true W hr1 hc1 (Kd.C_of_reads (d := (0 : Int)) (h1 := fun _ => rfl) hr2) hc2 (tbl hL) hk).mono fun e W' ⟨he, bel⟩ => ?_
  subst he
  exact ⟨_, rfl, _, _, _, [], _, [], hW', trodAll_mk1 (shut_bool Tryd.underlying4 _), (trodAll_cons_mk (shut_int Tryd.underlying23 w0) (trodAll_cons_mk (Below.trod laidOut (by kernel_rfl) (of_decide_eq_true (by kernel_rfl)) k1 bel lt1) (trodAll_cons_mk (Below.trod laidOut (by kernel_rfl) (of_decide_eq_true (by kernel_rfl)) k2 bel lt2) trodAll_mk0))), rfl, bel.frame _, fun h => by cases h⟩
set_option maxRecDepth 100000 in
theorem lifted (os : Os) (started : os.Started) (H : Type) (enc : TypeId × Value → H) (F : Stop.Interp) :
    ReturnsInHanded {} Tryd.checked os 6 .any ((OpenSpec.ofChange Rows.frameRowSpec).preRow enc Tryd.prog Tryd.f6 Rows.frameRowRow.domain false Rows.frameRowRow.laid) (((OpenSpec.ofChange Rows.frameRowSpec).at F).post enc Tryd.prog Tryd.f6 false true false false) := by
  obtain ⟨places, hx⟩ := reads os enc
  refine returnsInHanded_of_row (C := Tryd.checked) (s := OpenSpec.ofChange Rows.frameRowSpec) own started (by kernel_rfl) Tryd.func6
    (witness_row_at (enc := enc) (C := Tryd.checked) false (laidWorld os) #[.int .u32 0, .slice none 0 0, .slice none 0 0] rfl (by kernel_rfl) (by kernel_rfl) (by kernel_rfl)
      (OpenSpec.preRow_of_cond 8 hx (by kernel_rfl) (fun k hk => by cases hk) (by kernel_rfl) (laid_met os))) ?_
  intro W base args ds gs before hval hW _ _ hsz hL _ _
  exact contract H enc W base args ds gs before hval hW hsz hL
theorem said : Rows.FrameRowSaid :=
  OpenClaim.holds_of_cond 6 Tryd.f6 rfl rfl rfl rfl rfl rfl rfl ⟨rfl, rfl, rfl, rfl, rfl⟩ rfl rfl rfl rfl rfl (by kernel_rfl) Tryd.func6 (by kernel_rfl)
    (of_decide_eq_true (by kernel_rfl)) (by unfold Func.isWrapper; first | (rw [if_pos (by decide +kernel)]; kernel_rfl) | (rw [if_neg (by decide +kernel)]; exact ⟨rfl, rfl⟩))
    (fun os started H enc _ F => by rw [OpenClaim.pre_eq_preRow]; exact lifted os started H enc F)
/-- No parameter wants a stand-in; the program's own looks are off: what the card asks. -/
theorem plain (f : FuncId) (fn : Func) (hf : Tryd.pinned.checked.prog.funcNamed "vespers/vesperslaw06.FrameRow" = some f) (hfn : Tryd.pinned.checked.prog.funcs[f]? = some fn) :
    false = Tryd.pinned.checked.prog.looks [] ∧ ∀ (j : Nat) t, fn.params[j]? = some t → Tryd.pinned.checked.prog.wantsStandIn t = false := by
  obtain rfl : f = 6 := Option.some.inj ((show Tryd.prog.funcNamed "vespers/vesperslaw06.FrameRow" = some 6 by kernel_rfl).symm.trans hf) |>.symm
  obtain rfl : fn = Tryd.f6 := (Option.some.inj (Tryd.func6.symm.trans hfn)).symm
  refine ⟨by kernel_rfl, fun j t ht => ?_⟩
  rw [Tryd.params6] at ht
  rcases j with _ | _ | _ | j
  · obtain rfl : t = 23 := by simpa using ht.symm
    exact (show Tryd.prog.wantsStandIn 23 = false by kernel_rfl)
  · obtain rfl : t = 38 := by simpa using ht.symm
    exact (show Tryd.prog.wantsStandIn 38 = false by kernel_rfl)
  · obtain rfl : t = 22 := by simpa using ht.symm
    exact (show Tryd.prog.wantsStandIn 22 = false by kernel_rfl)
  · simp at ht
theorem card : Rows.FrameRowCardSaid :=
  Claim7.holds_tied_plain_at .later [] _ _ _ _ said (fun _ h => by cases h) (by kernel_rfl) (fun _ h => by cases h) frameRow_row_tie rfl ⟨rfl, rfl⟩ (by kernel_rfl) rfl plain (by kernel_rfl)
#print axioms card
end Go.Proofs.YtapdioaiimcehaaDoor.frameRow
namespace Go.Proofs.YtapdioaiimcehaaDoor
/-- The card, under a short name, for the claim. -/
theorem frameRow_card : Rows.FrameRowCardSaid := frameRow.card
end Go.Proofs.YtapdioaiimcehaaDoor
