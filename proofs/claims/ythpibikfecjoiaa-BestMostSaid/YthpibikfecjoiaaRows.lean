/-
  No cell of these rows narrows 'for every input' (looked for: loops, veiled, ifaces, maps, wideKeys, modest, calm, conditions, laid).
  DERIVED. THE GIVEN ROWS OF THIS SEAT. 4 by the template 'for every input the law returns true; each argument reads behind the call as it read before'; 0 by the template 'total and deterministic' (their statements: YthpibikfecjoiaaTotals.lean).
  GIVEN WITH THE SEED: the statements are not yours to turn. If you find one false, say at which input.
  Laid BY PROGRAM, IN A SANDBOX (cutbox-rows.mjs): the forced cells as the released guide's own fill.sh prints them over the translation 9bcaef33bad3e88c… (all of the seat's roots in one cut). By AI agents, Wed Nov 11 2026. No macro, syntax, notation, axiom, sorry.
-/
import Derived.Test.YthpibikfecjoiaaChecked
import GoSem.Claim
import GoSem.ClaimJoined
import GoSem.ClaimMapViews
import Derived.JoinedTies
import Derived.KernelRfl
namespace Go.Proofs.Ythpibikfecjoiaa
/- THE CELL 'sum', in the pinned program and in every row, IS THE sha256 OF THE DUMP (.gsa) THAT YthpibikfecjoiaaProg.lean LOADS. Nothing in Lean hashes anything: it is a label: what it is worth is what the hold of that sum in a sandbox is worth. -/
noncomputable def Try.pinned : Pinned := { name := "ythpibikfecjoiaa", sum := "9bcaef33bad3e88cf0d641f36a0239ce71c5ab69f8628a4aa62abd39a4e9a7d2", checked := Try.checked }
namespace Rows
def none {H : Type} : Left H := { results := [], args := [] }

/-- 'vesperslaw21.BestMore': WHATEVER THE INPUT: true; the input reads as it did. -/
def bestMoreSpec : ChangeSpec := { name := "bestMore", fn := fun _ => fun
  | [d1, d2, d3, d4, d5] => { results := [.lit (.bool true)], args := [d1, d2, d3, d4, d5] }
  | _ => none }
def bestMoreRow : OpenClaim := { program := "ythpibikfecjoiaa", sum := "9bcaef33bad3e88cf0d641f36a0239ce71c5ab69f8628a4aa62abd39a4e9a7d2", func := "vespers/vesperslaw21.BestMore", spec := "bestMore", unfollowed := true, recurses := true, apart := false }
def BestMoreSaid : Prop := bestMoreRow.holds Try.pinned (OpenSpec.ofChange bestMoreSpec)

/-- ITS FALSE NEIGHBOUR: 'it returns false'. Refute it at one input. -/
def bestMoreWrong : ChangeSpec := { name := "bestMore", fn := fun _ => fun
  | [d1, d2, d3, d4, d5] => { results := [.lit (.bool false)], args := [d1, d2, d3, d4, d5] }
  | _ => none }
def BestMoreWrongFalsely : Prop := bestMoreRow.holds Try.pinned (OpenSpec.ofChange bestMoreWrong)

/-- 'vesperslaw21.BestTurned': WHATEVER THE INPUT: true; the input reads as it did. -/
def bestTurnedSpec : ChangeSpec := { name := "bestTurned", fn := fun _ => fun
  | [d1, d2, d3, d4] => { results := [.lit (.bool true)], args := [d1, d2, d3, d4] }
  | _ => none }
def bestTurnedRow : OpenClaim := { program := "ythpibikfecjoiaa", sum := "9bcaef33bad3e88cf0d641f36a0239ce71c5ab69f8628a4aa62abd39a4e9a7d2", func := "vespers/vesperslaw21.BestTurned", spec := "bestTurned", unfollowed := true, recurses := true, apart := false }
def BestTurnedSaid : Prop := bestTurnedRow.holds Try.pinned (OpenSpec.ofChange bestTurnedSpec)

/-- ITS FALSE NEIGHBOUR: 'it returns false'. Refute it at one input. -/
def bestTurnedWrong : ChangeSpec := { name := "bestTurned", fn := fun _ => fun
  | [d1, d2, d3, d4] => { results := [.lit (.bool false)], args := [d1, d2, d3, d4] }
  | _ => none }
def BestTurnedWrongFalsely : Prop := bestTurnedRow.holds Try.pinned (OpenSpec.ofChange bestTurnedWrong)

/-- 'vesperslaw21.BestAll': WHATEVER THE INPUT: true; the input reads as it did. -/
def bestAllSpec : ChangeSpec := { name := "bestAll", fn := fun _ => fun
  | [d1, d2] => { results := [.lit (.bool true)], args := [d1, d2] }
  | _ => none }
def bestAllRow : OpenClaim := { program := "ythpibikfecjoiaa", sum := "9bcaef33bad3e88cf0d641f36a0239ce71c5ab69f8628a4aa62abd39a4e9a7d2", func := "vespers/vesperslaw21.BestAll", spec := "bestAll", unfollowed := true, recurses := true, apart := false }
def BestAllSaid : Prop := bestAllRow.holds Try.pinned (OpenSpec.ofChange bestAllSpec)

/-- ITS FALSE NEIGHBOUR: 'it returns false'. Refute it at one input. -/
def bestAllWrong : ChangeSpec := { name := "bestAll", fn := fun _ => fun
  | [d1, d2] => { results := [.lit (.bool false)], args := [d1, d2] }
  | _ => none }
def BestAllWrongFalsely : Prop := bestAllRow.holds Try.pinned (OpenSpec.ofChange bestAllWrong)

/-- 'vesperslaw21.BestMost': WHATEVER THE INPUT: true; the input reads as it did. -/
def bestMostSpec : ChangeSpec := { name := "bestMost", fn := fun _ => fun
  | [d1, d2, d3, d4, d5] => { results := [.lit (.bool true)], args := [d1, d2, d3, d4, d5] }
  | _ => none }
def bestMostRow : OpenClaim := { program := "ythpibikfecjoiaa", sum := "9bcaef33bad3e88cf0d641f36a0239ce71c5ab69f8628a4aa62abd39a4e9a7d2", func := "vespers/vesperslaw21.BestMost", spec := "bestMost", unfollowed := true, recurses := true, apart := false }
def BestMostSaid : Prop := bestMostRow.holds Try.pinned (OpenSpec.ofChange bestMostSpec)

/-- ITS FALSE NEIGHBOUR: 'it returns false'. Refute it at one input. -/
def bestMostWrong : ChangeSpec := { name := "bestMost", fn := fun _ => fun
  | [d1, d2, d3, d4, d5] => { results := [.lit (.bool false)], args := [d1, d2, d3, d4, d5] }
  | _ => none }
def BestMostWrongFalsely : Prop := bestMostRow.holds Try.pinned (OpenSpec.ofChange bestMostWrong)

/- THE SECOND FORM. 'bulk': how many values and letters a reading holds, each counted each time it is reached (what is shared counts as often as it is met; a slice's spare places count too). A statement '..UptoSaid' is the law's where the arguments, and the package variables that the reading takes, are together of bulk at most 1048576: NARROWER than '..Said'. Prove '..Said' where nothing that the law and all that it calls make is longer than what came in: it says more and counts as full. Else prove '..UptoSaid'. A law counts once. -/
mutual
def uptoBulk {H : Type} : DataW H → Nat
  | .lit (.string bytes) => bytes.length + 1
  | .lit _ => 1
  | .nil => 1
  | .ptr d => uptoBulk d + 1
  | .slice elems spare => uptoBulkAll elems + uptoBulkAll spare + 1
  | .agg parts => uptoBulkAll parts + 1
  | .iface _ d => uptoBulk d + 1
  | .map entries => uptoBulkEntries entries + 1
  | .held _ => 1
def uptoBulkAll {H : Type} : List (DataW H) → Nat
  | [] => 0
  | d :: r => uptoBulk d + uptoBulkAll r
def uptoBulkEntries {H : Type} : List (Lit × DataW H) → Nat
  | [] => 0
  | x :: r => uptoBulkEntry x + uptoBulkEntries r
def uptoBulkEntry {H : Type} : Lit × DataW H → Nat
  | (.string bytes, d) => bytes.length + uptoBulk d + 1
  | (_, d) => uptoBulk d + 1
 end
def uptoSmall : (H : Type) → List (DataW H) → Bool := fun _ ds => decide (uptoBulkAll ds ≤ 1048576)
def OpenSpec.upto (s : _root_.Go.ChangeSpec) : _root_.Go.OpenSpec := { _root_.Go.OpenSpec.ofChange s with cond := some uptoSmall }

/-- 'vesperslaw21.BestMore', WHERE WHAT IT READS IS OF BULK AT MOST 1048576: true; the input reads as it did. -/
def bestMoreUptoRow : OpenClaim := { program := "ythpibikfecjoiaa", sum := "9bcaef33bad3e88cf0d641f36a0239ce71c5ab69f8628a4aa62abd39a4e9a7d2", func := "vespers/vesperslaw21.BestMore", spec := "bestMore", unfollowed := true, recurses := true, apart := false, narrowed := true }
def BestMoreUptoSaid : Prop := bestMoreUptoRow.holds Try.pinned (OpenSpec.upto bestMoreSpec)

/-- 'vesperslaw21.BestTurned', WHERE WHAT IT READS IS OF BULK AT MOST 1048576: true; the input reads as it did. -/
def bestTurnedUptoRow : OpenClaim := { program := "ythpibikfecjoiaa", sum := "9bcaef33bad3e88cf0d641f36a0239ce71c5ab69f8628a4aa62abd39a4e9a7d2", func := "vespers/vesperslaw21.BestTurned", spec := "bestTurned", unfollowed := true, recurses := true, apart := false, narrowed := true }
def BestTurnedUptoSaid : Prop := bestTurnedUptoRow.holds Try.pinned (OpenSpec.upto bestTurnedSpec)

/-- 'vesperslaw21.BestAll', WHERE WHAT IT READS IS OF BULK AT MOST 1048576: true; the input reads as it did. -/
def bestAllUptoRow : OpenClaim := { program := "ythpibikfecjoiaa", sum := "9bcaef33bad3e88cf0d641f36a0239ce71c5ab69f8628a4aa62abd39a4e9a7d2", func := "vespers/vesperslaw21.BestAll", spec := "bestAll", unfollowed := true, recurses := true, apart := false, narrowed := true }
def BestAllUptoSaid : Prop := bestAllUptoRow.holds Try.pinned (OpenSpec.upto bestAllSpec)

/-- 'vesperslaw21.BestMost', WHERE WHAT IT READS IS OF BULK AT MOST 1048576: true; the input reads as it did. -/
def bestMostUptoRow : OpenClaim := { program := "ythpibikfecjoiaa", sum := "9bcaef33bad3e88cf0d641f36a0239ce71c5ab69f8628a4aa62abd39a4e9a7d2", func := "vespers/vesperslaw21.BestMost", spec := "bestMost", unfollowed := true, recurses := true, apart := false, narrowed := true }
def BestMostUptoSaid : Prop := bestMostUptoRow.holds Try.pinned (OpenSpec.upto bestMostSpec)

end Rows
end Go.Proofs.Ythpibikfecjoiaa
