/-
  No cell of these rows narrows 'for every input' (looked for: loops, veiled, ifaces, maps, wideKeys, modest, calm, conditions, laid).
  DERIVED. THE GIVEN ROWS OF THIS SEAT. 7 by the template 'for every input the law returns true; each argument reads behind the call as it read before'; 0 by the template 'total and deterministic' (their statements: YtoigdebcpmgknaaTotals.lean).
  GIVEN WITH THE SEED: the statements are not yours to turn. If you find one false, say at which input.
  Laid BY PROGRAM, IN A SANDBOX (cutbox-rows.mjs): the forced cells as the released guide's own fill.sh prints them over the translation 620b1fa2c17151b4… (all of the seat's roots in one cut). By AI agents, Wed Nov 11 2026. No macro, syntax, notation, axiom, sorry.
-/
import Derived.Test.YtoigdebcpmgknaaChecked
import GoSem.Claim
import GoSem.ClaimJoined
import GoSem.ClaimMapViews
import Derived.JoinedTies
import Derived.KernelRfl
namespace Go.Proofs.Ytoigdebcpmgknaa
/- THE CELL 'sum', in the pinned program and in every row, IS THE sha256 OF THE DUMP (.gsa) THAT YtoigdebcpmgknaaProg.lean LOADS. Nothing in Lean hashes anything: it is a label: what it is worth is what the hold of that sum in a sandbox is worth. -/
noncomputable def Try.pinned : Pinned := { name := "ytoigdebcpmgknaa", sum := "620b1fa2c17151b48f4f8af68a4cdbc154035149d517c2bd876ae772e3faea7d", checked := Try.checked }
namespace Rows
def none {H : Type} : Left H := { results := [], args := [] }

/-- 'vesperslaw01.CivilMonths': WHATEVER THE INPUT: true; the input reads as it did. -/
def civilMonthsSpec : ChangeSpec := { name := "civilMonths", fn := fun _ => fun
  | [d1, d2] => { results := [.lit (.bool true)], args := [d1, d2] }
  | _ => none }
def civilMonthsRow : OpenClaim := { program := "ytoigdebcpmgknaa", sum := "620b1fa2c17151b48f4f8af68a4cdbc154035149d517c2bd876ae772e3faea7d", func := "vespers/vesperslaw01.CivilMonths", spec := "civilMonths", apart := false }
def CivilMonthsSaid : Prop := civilMonthsRow.holds Try.pinned (OpenSpec.ofChange civilMonthsSpec)

/-- ITS FALSE NEIGHBOUR: 'it returns false'. Refute it at one input. -/
def civilMonthsWrong : ChangeSpec := { name := "civilMonths", fn := fun _ => fun
  | [d1, d2] => { results := [.lit (.bool false)], args := [d1, d2] }
  | _ => none }
def CivilMonthsWrongFalsely : Prop := civilMonthsRow.holds Try.pinned (OpenSpec.ofChange civilMonthsWrong)

/-- 'vesperslaw01.CivilNth': WHATEVER THE INPUT: true; the input reads as it did. -/
def civilNthSpec : ChangeSpec := { name := "civilNth", fn := fun _ => fun
  | [d1, d2, d3, d4] => { results := [.lit (.bool true)], args := [d1, d2, d3, d4] }
  | _ => none }
def civilNthRow : OpenClaim := { program := "ytoigdebcpmgknaa", sum := "620b1fa2c17151b48f4f8af68a4cdbc154035149d517c2bd876ae772e3faea7d", func := "vespers/vesperslaw01.CivilNth", spec := "civilNth", apart := false }
def CivilNthSaid : Prop := civilNthRow.holds Try.pinned (OpenSpec.ofChange civilNthSpec)

/-- ITS FALSE NEIGHBOUR: 'it returns false'. Refute it at one input. -/
def civilNthWrong : ChangeSpec := { name := "civilNth", fn := fun _ => fun
  | [d1, d2, d3, d4] => { results := [.lit (.bool false)], args := [d1, d2, d3, d4] }
  | _ => none }
def CivilNthWrongFalsely : Prop := civilNthRow.holds Try.pinned (OpenSpec.ofChange civilNthWrong)

/-- 'vesperslaw01.CivilWeeks': WHATEVER THE INPUT: true; the input reads as it did. -/
def civilWeeksSpec : ChangeSpec := { name := "civilWeeks", fn := fun _ => fun
  | [d1, d2, d3, d4] => { results := [.lit (.bool true)], args := [d1, d2, d3, d4] }
  | _ => none }
def civilWeeksRow : OpenClaim := { program := "ytoigdebcpmgknaa", sum := "620b1fa2c17151b48f4f8af68a4cdbc154035149d517c2bd876ae772e3faea7d", func := "vespers/vesperslaw01.CivilWeeks", spec := "civilWeeks", apart := false }
def CivilWeeksSaid : Prop := civilWeeksRow.holds Try.pinned (OpenSpec.ofChange civilWeeksSpec)

/-- ITS FALSE NEIGHBOUR: 'it returns false'. Refute it at one input. -/
def civilWeeksWrong : ChangeSpec := { name := "civilWeeks", fn := fun _ => fun
  | [d1, d2, d3, d4] => { results := [.lit (.bool false)], args := [d1, d2, d3, d4] }
  | _ => none }
def CivilWeeksWrongFalsely : Prop := civilWeeksRow.holds Try.pinned (OpenSpec.ofChange civilWeeksWrong)

/-- 'vesperslaw01.CivilDates': WHATEVER THE INPUT: true; the input reads as it did. -/
def civilDatesSpec : ChangeSpec := { name := "civilDates", fn := fun _ => fun
  | [d] => { results := [.lit (.bool true)], args := [d] }
  | _ => none }
def civilDatesRow : OpenClaim := { program := "ytoigdebcpmgknaa", sum := "620b1fa2c17151b48f4f8af68a4cdbc154035149d517c2bd876ae772e3faea7d", func := "vespers/vesperslaw01.CivilDates", spec := "civilDates", apart := false }
def CivilDatesSaid : Prop := civilDatesRow.holds Try.pinned (OpenSpec.ofChange civilDatesSpec)

/-- ITS FALSE NEIGHBOUR: 'it returns false'. Refute it at one input. -/
def civilDatesWrong : ChangeSpec := { name := "civilDates", fn := fun _ => fun
  | [d] => { results := [.lit (.bool false)], args := [d] }
  | _ => none }
def CivilDatesWrongFalsely : Prop := civilDatesRow.holds Try.pinned (OpenSpec.ofChange civilDatesWrong)

/-- 'vesperslaw01.CivilYears': WHATEVER THE INPUT: true; the input reads as it did. -/
def civilYearsSpec : ChangeSpec := { name := "civilYears", fn := fun _ => fun
  | [d] => { results := [.lit (.bool true)], args := [d] }
  | _ => none }
def civilYearsRow : OpenClaim := { program := "ytoigdebcpmgknaa", sum := "620b1fa2c17151b48f4f8af68a4cdbc154035149d517c2bd876ae772e3faea7d", func := "vespers/vesperslaw01.CivilYears", spec := "civilYears", apart := false }
def CivilYearsSaid : Prop := civilYearsRow.holds Try.pinned (OpenSpec.ofChange civilYearsSpec)

/-- ITS FALSE NEIGHBOUR: 'it returns false'. Refute it at one input. -/
def civilYearsWrong : ChangeSpec := { name := "civilYears", fn := fun _ => fun
  | [d] => { results := [.lit (.bool false)], args := [d] }
  | _ => none }
def CivilYearsWrongFalsely : Prop := civilYearsRow.holds Try.pinned (OpenSpec.ofChange civilYearsWrong)

/-- 'vesperslaw01.CivilNumbers': WHATEVER THE INPUT: true; the input reads as it did. -/
def civilNumbersSpec : ChangeSpec := { name := "civilNumbers", fn := fun _ => fun
  | [d] => { results := [.lit (.bool true)], args := [d] }
  | _ => none }
def civilNumbersRow : OpenClaim := { program := "ytoigdebcpmgknaa", sum := "620b1fa2c17151b48f4f8af68a4cdbc154035149d517c2bd876ae772e3faea7d", func := "vespers/vesperslaw01.CivilNumbers", spec := "civilNumbers", apart := false }
def CivilNumbersSaid : Prop := civilNumbersRow.holds Try.pinned (OpenSpec.ofChange civilNumbersSpec)

/-- ITS FALSE NEIGHBOUR: 'it returns false'. Refute it at one input. -/
def civilNumbersWrong : ChangeSpec := { name := "civilNumbers", fn := fun _ => fun
  | [d] => { results := [.lit (.bool false)], args := [d] }
  | _ => none }
def CivilNumbersWrongFalsely : Prop := civilNumbersRow.holds Try.pinned (OpenSpec.ofChange civilNumbersWrong)

/-- 'vesperslaw01.CivilSums': WHATEVER THE INPUT: true; the input reads as it did. -/
def civilSumsSpec : ChangeSpec := { name := "civilSums", fn := fun _ => fun
  | [d1, d2] => { results := [.lit (.bool true)], args := [d1, d2] }
  | _ => none }
def civilSumsRow : OpenClaim := { program := "ytoigdebcpmgknaa", sum := "620b1fa2c17151b48f4f8af68a4cdbc154035149d517c2bd876ae772e3faea7d", func := "vespers/vesperslaw01.CivilSums", spec := "civilSums", apart := false }
def CivilSumsSaid : Prop := civilSumsRow.holds Try.pinned (OpenSpec.ofChange civilSumsSpec)

/-- ITS FALSE NEIGHBOUR: 'it returns false'. Refute it at one input. -/
def civilSumsWrong : ChangeSpec := { name := "civilSums", fn := fun _ => fun
  | [d1, d2] => { results := [.lit (.bool false)], args := [d1, d2] }
  | _ => none }
def CivilSumsWrongFalsely : Prop := civilSumsRow.holds Try.pinned (OpenSpec.ofChange civilSumsWrong)

/- THE SECOND FORM. 'bulk': how many values and letters a reading holds, each counted each time it is reached (what is shared counts as often as it is met; a slice's spare places count too). A statement '..UptoSaid' is the law's where the arguments, and the package variables that the reading takes, are together of bulk at most 1048576: NARROWER than '..Said'. Prove '..Said' where nothing that the law and all that it calls make is longer than what came in: it says more and counts as full. Else prove '..UptoSaid'. A law counts once. -/
mutual
def uptoBulk {H : Type} : DataW H → Nat
  | .lit (.string bytes) => bytes.length + 1
  | .lit _ => 1
  | .nil => 1
  | .ptr d => uptoBulk d + 1
  | .slice elems spare => uptoBulkAll elems + uptoBulkAll spare + 1
  | .agg parts => uptoBulkAll parts + 1
  | .iface _ d => uptoBulk d + 1
  | .map entries => uptoBulkEntries entries + 1
  | .held _ => 1
def uptoBulkAll {H : Type} : List (DataW H) → Nat
  | [] => 0
  | d :: r => uptoBulk d + uptoBulkAll r
def uptoBulkEntries {H : Type} : List (Lit × DataW H) → Nat
  | [] => 0
  | x :: r => uptoBulkEntry x + uptoBulkEntries r
def uptoBulkEntry {H : Type} : Lit × DataW H → Nat
  | (.string bytes, d) => bytes.length + uptoBulk d + 1
  | (_, d) => uptoBulk d + 1
 end
def uptoSmall : (H : Type) → List (DataW H) → Bool := fun _ ds => decide (uptoBulkAll ds ≤ 1048576)
def OpenSpec.upto (s : _root_.Go.ChangeSpec) : _root_.Go.OpenSpec := { _root_.Go.OpenSpec.ofChange s with cond := some uptoSmall }

/-- 'vesperslaw01.CivilMonths', WHERE WHAT IT READS IS OF BULK AT MOST 1048576: true; the input reads as it did. -/
def civilMonthsUptoRow : OpenClaim := { program := "ytoigdebcpmgknaa", sum := "620b1fa2c17151b48f4f8af68a4cdbc154035149d517c2bd876ae772e3faea7d", func := "vespers/vesperslaw01.CivilMonths", spec := "civilMonths", apart := false, narrowed := true }
def CivilMonthsUptoSaid : Prop := civilMonthsUptoRow.holds Try.pinned (OpenSpec.upto civilMonthsSpec)

/-- 'vesperslaw01.CivilNth', WHERE WHAT IT READS IS OF BULK AT MOST 1048576: true; the input reads as it did. -/
def civilNthUptoRow : OpenClaim := { program := "ytoigdebcpmgknaa", sum := "620b1fa2c17151b48f4f8af68a4cdbc154035149d517c2bd876ae772e3faea7d", func := "vespers/vesperslaw01.CivilNth", spec := "civilNth", apart := false, narrowed := true }
def CivilNthUptoSaid : Prop := civilNthUptoRow.holds Try.pinned (OpenSpec.upto civilNthSpec)

/-- 'vesperslaw01.CivilWeeks', WHERE WHAT IT READS IS OF BULK AT MOST 1048576: true; the input reads as it did. -/
def civilWeeksUptoRow : OpenClaim := { program := "ytoigdebcpmgknaa", sum := "620b1fa2c17151b48f4f8af68a4cdbc154035149d517c2bd876ae772e3faea7d", func := "vespers/vesperslaw01.CivilWeeks", spec := "civilWeeks", apart := false, narrowed := true }
def CivilWeeksUptoSaid : Prop := civilWeeksUptoRow.holds Try.pinned (OpenSpec.upto civilWeeksSpec)

/-- 'vesperslaw01.CivilDates', WHERE WHAT IT READS IS OF BULK AT MOST 1048576: true; the input reads as it did. -/
def civilDatesUptoRow : OpenClaim := { program := "ytoigdebcpmgknaa", sum := "620b1fa2c17151b48f4f8af68a4cdbc154035149d517c2bd876ae772e3faea7d", func := "vespers/vesperslaw01.CivilDates", spec := "civilDates", apart := false, narrowed := true }
def CivilDatesUptoSaid : Prop := civilDatesUptoRow.holds Try.pinned (OpenSpec.upto civilDatesSpec)

/-- 'vesperslaw01.CivilYears', WHERE WHAT IT READS IS OF BULK AT MOST 1048576: true; the input reads as it did. -/
def civilYearsUptoRow : OpenClaim := { program := "ytoigdebcpmgknaa", sum := "620b1fa2c17151b48f4f8af68a4cdbc154035149d517c2bd876ae772e3faea7d", func := "vespers/vesperslaw01.CivilYears", spec := "civilYears", apart := false, narrowed := true }
def CivilYearsUptoSaid : Prop := civilYearsUptoRow.holds Try.pinned (OpenSpec.upto civilYearsSpec)

/-- 'vesperslaw01.CivilNumbers', WHERE WHAT IT READS IS OF BULK AT MOST 1048576: true; the input reads as it did. -/
def civilNumbersUptoRow : OpenClaim := { program := "ytoigdebcpmgknaa", sum := "620b1fa2c17151b48f4f8af68a4cdbc154035149d517c2bd876ae772e3faea7d", func := "vespers/vesperslaw01.CivilNumbers", spec := "civilNumbers", apart := false, narrowed := true }
def CivilNumbersUptoSaid : Prop := civilNumbersUptoRow.holds Try.pinned (OpenSpec.upto civilNumbersSpec)

/-- 'vesperslaw01.CivilSums', WHERE WHAT IT READS IS OF BULK AT MOST 1048576: true; the input reads as it did. -/
def civilSumsUptoRow : OpenClaim := { program := "ytoigdebcpmgknaa", sum := "620b1fa2c17151b48f4f8af68a4cdbc154035149d517c2bd876ae772e3faea7d", func := "vespers/vesperslaw01.CivilSums", spec := "civilSums", apart := false, narrowed := true }
def CivilSumsUptoSaid : Prop := civilSumsUptoRow.holds Try.pinned (OpenSpec.upto civilSumsSpec)

end Rows
end Go.Proofs.Ytoigdebcpmgknaa
