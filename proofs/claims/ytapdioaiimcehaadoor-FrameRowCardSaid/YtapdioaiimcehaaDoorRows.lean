/-
  NARROWER THAN 'FOR EVERY INPUT', by the rows' own cells (each row's printed sentence says how): FrameGets: laid · FramePuts: laid · FrameOnly: laid · FrameRow: laid · FrameApart: laid.
  DERIVED. THE GIVEN ROWS OF THIS SEAT. 5 by the template 'for every input the law returns true; each argument reads behind the call as it read before'; 0 by the template 'total and deterministic' (their statements: YtapdioaiimcehaaDoorTotals.lean).
  GIVEN WITH THE SEED: the statements are not yours to turn. If you find one false, say at which input.
  Laid BY PROGRAM, IN A SANDBOX (cutbox-rows.mjs): the forced cells as the released guide's own fill.sh prints them over the translation 89e8af1f425d0516… (all of the seat's roots in one cut). By AI agents, Wed Nov 11 2026. No macro, syntax, notation, axiom, sorry.
-/
import Derived.Test.YtapdioaiimcehaaDoorChecked
import GoSem.Claim
import GoSem.ClaimJoined
import GoSem.ClaimMapViews
import Derived.JoinedTies
import Derived.KernelRfl
namespace Go.Proofs.YtapdioaiimcehaaDoor
/- THE CELL 'sum', in the pinned program and in every row, IS THE sha256 OF THE DUMP (.gsa) THAT YtapdioaiimcehaaDoorProg.lean LOADS. Nothing in Lean hashes anything: it is a label: what it is worth is what the hold of that sum in a sandbox is worth. -/
noncomputable def Tryd.pinned : Pinned := { name := "ytapdioaiimcehaadoor", sum := "89e8af1f425d0516dccbac8d04570cd9b2331e83f44c16a5c2bd0a7b116a60bc", checked := Tryd.checked }
namespace Rows
def none {H : Type} : Left H := { results := [], args := [] }

/- WHAT THE LISTED PACKAGE-LEVEL VARIABLES READ AS WHEN THE CALL BEGINS. Each datum BY PROGRAM (the guide's laid-datum.mjs) off the statement by which the dump's own 'gosem.cut.vars' lays the variable. In a bare row this is a premise. The card (YtapdioaiimcehaaDoorCards.lean) ties it to the program's text. -/
def laid_vespers_crc_table {H : Type} : DataW H := .agg [.lit (.int .u32 0), .lit (.int .u32 498536548), .lit (.int .u32 997073096), .lit (.int .u32 651767980), .lit (.int .u32 1994146192), .lit (.int .u32 1802195444), .lit (.int .u32 1303535960), .lit (.int .u32 1342533948), .lit (.int .u32 3988292384), .lit (.int .u32 4027552580), .lit (.int .u32 3604390888), .lit (.int .u32 3412177804), .lit (.int .u32 2607071920), .lit (.int .u32 2262029012), .lit (.int .u32 2685067896), .lit (.int .u32 3183342108)]

/-- 'vesperslaw06.FrameGets': WHATEVER THE INPUT: true; the input reads as it did. -/
def frameGetsSpec : ChangeSpec := { name := "frameGets", fn := fun _ => fun
  | [d1, d2, d3] => { results := [.lit (.bool true)], args := [d1, d2, d3] }
  | _ => none }
def frameGetsRow : OpenClaim := { program := "ytapdioaiimcehaadoor", sum := "89e8af1f425d0516dccbac8d04570cd9b2331e83f44c16a5c2bd0a7b116a60bc", func := "vespers/vesperslaw06.FrameGets", spec := "frameGets", named := ["vespers/crc.table"], apart := false, laid := [("vespers/crc.table", laid_vespers_crc_table)] }
def FrameGetsSaid : Prop := frameGetsRow.holds Tryd.pinned (OpenSpec.ofChange frameGetsSpec)

/-- ITS FALSE NEIGHBOUR: 'it returns false'. Refute it at one input. -/
def frameGetsWrong : ChangeSpec := { name := "frameGets", fn := fun _ => fun
  | [d1, d2, d3] => { results := [.lit (.bool false)], args := [d1, d2, d3] }
  | _ => none }
def FrameGetsWrongFalsely : Prop := frameGetsRow.holds Tryd.pinned (OpenSpec.ofChange frameGetsWrong)

/-- 'vesperslaw06.FramePuts': WHATEVER THE INPUT: true; the input reads as it did. -/
def framePutsSpec : ChangeSpec := { name := "framePuts", fn := fun _ => fun
  | [d1, d2, d3, d4] => { results := [.lit (.bool true)], args := [d1, d2, d3, d4] }
  | _ => none }
def framePutsRow : OpenClaim := { program := "ytapdioaiimcehaadoor", sum := "89e8af1f425d0516dccbac8d04570cd9b2331e83f44c16a5c2bd0a7b116a60bc", func := "vespers/vesperslaw06.FramePuts", spec := "framePuts", named := ["vespers/crc.table"], apart := false, laid := [("vespers/crc.table", laid_vespers_crc_table)] }
def FramePutsSaid : Prop := framePutsRow.holds Tryd.pinned (OpenSpec.ofChange framePutsSpec)

/-- ITS FALSE NEIGHBOUR: 'it returns false'. Refute it at one input. -/
def framePutsWrong : ChangeSpec := { name := "framePuts", fn := fun _ => fun
  | [d1, d2, d3, d4] => { results := [.lit (.bool false)], args := [d1, d2, d3, d4] }
  | _ => none }
def FramePutsWrongFalsely : Prop := framePutsRow.holds Tryd.pinned (OpenSpec.ofChange framePutsWrong)

/-- 'vesperslaw06.FrameOnly': WHATEVER THE INPUT: true; the input reads as it did. -/
def frameOnlySpec : ChangeSpec := { name := "frameOnly", fn := fun _ => fun
  | [d1, d2, d3, d4, d5] => { results := [.lit (.bool true)], args := [d1, d2, d3, d4, d5] }
  | _ => none }
def frameOnlyRow : OpenClaim := { program := "ytapdioaiimcehaadoor", sum := "89e8af1f425d0516dccbac8d04570cd9b2331e83f44c16a5c2bd0a7b116a60bc", func := "vespers/vesperslaw06.FrameOnly", spec := "frameOnly", named := ["vespers/crc.table"], apart := false, laid := [("vespers/crc.table", laid_vespers_crc_table)] }
def FrameOnlySaid : Prop := frameOnlyRow.holds Tryd.pinned (OpenSpec.ofChange frameOnlySpec)

/-- ITS FALSE NEIGHBOUR: 'it returns false'. Refute it at one input. -/
def frameOnlyWrong : ChangeSpec := { name := "frameOnly", fn := fun _ => fun
  | [d1, d2, d3, d4, d5] => { results := [.lit (.bool false)], args := [d1, d2, d3, d4, d5] }
  | _ => none }
def FrameOnlyWrongFalsely : Prop := frameOnlyRow.holds Tryd.pinned (OpenSpec.ofChange frameOnlyWrong)

/-- 'vesperslaw06.FrameRow': WHATEVER THE INPUT: true; the input reads as it did. -/
def frameRowSpec : ChangeSpec := { name := "frameRow", fn := fun _ => fun
  | [d1, d2, d3] => { results := [.lit (.bool true)], args := [d1, d2, d3] }
  | _ => none }
def frameRowRow : OpenClaim := { program := "ytapdioaiimcehaadoor", sum := "89e8af1f425d0516dccbac8d04570cd9b2331e83f44c16a5c2bd0a7b116a60bc", func := "vespers/vesperslaw06.FrameRow", spec := "frameRow", named := ["vespers/crc.table"], apart := false, laid := [("vespers/crc.table", laid_vespers_crc_table)] }
def FrameRowSaid : Prop := frameRowRow.holds Tryd.pinned (OpenSpec.ofChange frameRowSpec)

/-- ITS FALSE NEIGHBOUR: 'it returns false'. Refute it at one input. -/
def frameRowWrong : ChangeSpec := { name := "frameRow", fn := fun _ => fun
  | [d1, d2, d3] => { results := [.lit (.bool false)], args := [d1, d2, d3] }
  | _ => none }
def FrameRowWrongFalsely : Prop := frameRowRow.holds Tryd.pinned (OpenSpec.ofChange frameRowWrong)

/-- 'vesperslaw06.FrameApart': WHATEVER THE INPUT: true; the input reads as it did. -/
def frameApartSpec : ChangeSpec := { name := "frameApart", fn := fun _ => fun
  | [d1, d2, d3, d4, d5, d6] => { results := [.lit (.bool true)], args := [d1, d2, d3, d4, d5, d6] }
  | _ => none }
def frameApartRow : OpenClaim := { program := "ytapdioaiimcehaadoor", sum := "89e8af1f425d0516dccbac8d04570cd9b2331e83f44c16a5c2bd0a7b116a60bc", func := "vespers/vesperslaw06.FrameApart", spec := "frameApart", named := ["vespers/crc.table"], apart := false, laid := [("vespers/crc.table", laid_vespers_crc_table)] }
def FrameApartSaid : Prop := frameApartRow.holds Tryd.pinned (OpenSpec.ofChange frameApartSpec)

/-- ITS FALSE NEIGHBOUR: 'it returns false'. Refute it at one input. -/
def frameApartWrong : ChangeSpec := { name := "frameApart", fn := fun _ => fun
  | [d1, d2, d3, d4, d5, d6] => { results := [.lit (.bool false)], args := [d1, d2, d3, d4, d5, d6] }
  | _ => none }
def FrameApartWrongFalsely : Prop := frameApartRow.holds Tryd.pinned (OpenSpec.ofChange frameApartWrong)

/- THE SECOND FORM. 'bulk': how many values and letters a reading holds, each counted each time it is reached (what is shared counts as often as it is met; a slice's spare places count too). A statement '..UptoSaid' is the law's where the arguments, and the package variables that the reading takes, are together of bulk at most 1048576: NARROWER than '..Said'. Prove '..Said' where nothing that the law and all that it calls make is longer than what came in: it says more and counts as full. Else prove '..UptoSaid'. A law counts once. -/
mutual
def uptoBulk {H : Type} : DataW H → Nat
  | .lit (.string bytes) => bytes.length + 1
  | .lit _ => 1
  | .nil => 1
  | .ptr d => uptoBulk d + 1
  | .slice elems spare => uptoBulkAll elems + uptoBulkAll spare + 1
  | .agg parts => uptoBulkAll parts + 1
  | .iface _ d => uptoBulk d + 1
  | .map entries => uptoBulkEntries entries + 1
  | .held _ => 1
def uptoBulkAll {H : Type} : List (DataW H) → Nat
  | [] => 0
  | d :: r => uptoBulk d + uptoBulkAll r
def uptoBulkEntries {H : Type} : List (Lit × DataW H) → Nat
  | [] => 0
  | x :: r => uptoBulkEntry x + uptoBulkEntries r
def uptoBulkEntry {H : Type} : Lit × DataW H → Nat
  | (.string bytes, d) => bytes.length + uptoBulk d + 1
  | (_, d) => uptoBulk d + 1
 end
def uptoSmall : (H : Type) → List (DataW H) → Bool := fun _ ds => decide (uptoBulkAll ds ≤ 1048576)
def OpenSpec.upto (s : _root_.Go.ChangeSpec) : _root_.Go.OpenSpec := { _root_.Go.OpenSpec.ofChange s with cond := some uptoSmall }

/-- 'vesperslaw06.FrameGets', WHERE WHAT IT READS IS OF BULK AT MOST 1048576: true; the input reads as it did. -/
def frameGetsUptoRow : OpenClaim := { program := "ytapdioaiimcehaadoor", sum := "89e8af1f425d0516dccbac8d04570cd9b2331e83f44c16a5c2bd0a7b116a60bc", func := "vespers/vesperslaw06.FrameGets", spec := "frameGets", named := ["vespers/crc.table"], apart := false, laid := [("vespers/crc.table", laid_vespers_crc_table)], narrowed := true }
def FrameGetsUptoSaid : Prop := frameGetsUptoRow.holds Tryd.pinned (OpenSpec.upto frameGetsSpec)

/-- 'vesperslaw06.FramePuts', WHERE WHAT IT READS IS OF BULK AT MOST 1048576: true; the input reads as it did. -/
def framePutsUptoRow : OpenClaim := { program := "ytapdioaiimcehaadoor", sum := "89e8af1f425d0516dccbac8d04570cd9b2331e83f44c16a5c2bd0a7b116a60bc", func := "vespers/vesperslaw06.FramePuts", spec := "framePuts", named := ["vespers/crc.table"], apart := false, laid := [("vespers/crc.table", laid_vespers_crc_table)], narrowed := true }
def FramePutsUptoSaid : Prop := framePutsUptoRow.holds Tryd.pinned (OpenSpec.upto framePutsSpec)

/-- 'vesperslaw06.FrameOnly', WHERE WHAT IT READS IS OF BULK AT MOST 1048576: true; the input reads as it did. -/
def frameOnlyUptoRow : OpenClaim := { program := "ytapdioaiimcehaadoor", sum := "89e8af1f425d0516dccbac8d04570cd9b2331e83f44c16a5c2bd0a7b116a60bc", func := "vespers/vesperslaw06.FrameOnly", spec := "frameOnly", named := ["vespers/crc.table"], apart := false, laid := [("vespers/crc.table", laid_vespers_crc_table)], narrowed := true }
def FrameOnlyUptoSaid : Prop := frameOnlyUptoRow.holds Tryd.pinned (OpenSpec.upto frameOnlySpec)

/-- 'vesperslaw06.FrameRow', WHERE WHAT IT READS IS OF BULK AT MOST 1048576: true; the input reads as it did. -/
def frameRowUptoRow : OpenClaim := { program := "ytapdioaiimcehaadoor", sum := "89e8af1f425d0516dccbac8d04570cd9b2331e83f44c16a5c2bd0a7b116a60bc", func := "vespers/vesperslaw06.FrameRow", spec := "frameRow", named := ["vespers/crc.table"], apart := false, laid := [("vespers/crc.table", laid_vespers_crc_table)], narrowed := true }
def FrameRowUptoSaid : Prop := frameRowUptoRow.holds Tryd.pinned (OpenSpec.upto frameRowSpec)

/-- 'vesperslaw06.FrameApart', WHERE WHAT IT READS IS OF BULK AT MOST 1048576: true; the input reads as it did. -/
def frameApartUptoRow : OpenClaim := { program := "ytapdioaiimcehaadoor", sum := "89e8af1f425d0516dccbac8d04570cd9b2331e83f44c16a5c2bd0a7b116a60bc", func := "vespers/vesperslaw06.FrameApart", spec := "frameApart", named := ["vespers/crc.table"], apart := false, laid := [("vespers/crc.table", laid_vespers_crc_table)], narrowed := true }
def FrameApartUptoSaid : Prop := frameApartUptoRow.holds Tryd.pinned (OpenSpec.upto frameApartSpec)

end Rows
end Go.Proofs.YtapdioaiimcehaaDoor
