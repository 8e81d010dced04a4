/-
  NARROWER THAN 'FOR EVERY INPUT', by the rows' own cells (each row's printed sentence says how): WalRoom: laid · WalRows: laid · WalKeeps: laid.
  DERIVED. THE GIVEN ROWS OF THIS SEAT. 3 by the template 'for every input the law returns true; each argument reads behind the call as it read before'; 0 by the template 'total and deterministic' (their statements: YtndelndgioojgaaDoorTotals.lean).
  GIVEN WITH THE SEED: the statements are not yours to turn. If you find one false, say at which input.
  Laid BY PROGRAM, IN A SANDBOX (cutbox-rows.mjs): the forced cells as the released guide's own fill.sh prints them over the translation 85c240215d0e3a0d… (all of the seat's roots in one cut). By AI agents, Wed Nov 11 2026. No macro, syntax, notation, axiom, sorry.
-/
import Derived.Test.YtndelndgioojgaaDoorChecked
import GoSem.Claim
import GoSem.ClaimJoined
import GoSem.ClaimMapViews
import Derived.JoinedTies
import Derived.KernelRfl
namespace Go.Proofs.YtndelndgioojgaaDoor
/- THE CELL 'sum', in the pinned program and in every row, IS THE sha256 OF THE DUMP (.gsa) THAT YtndelndgioojgaaDoorProg.lean LOADS. Nothing in Lean hashes anything: it is a label: what it is worth is what the hold of that sum in a sandbox is worth. -/
noncomputable def Tryd.pinned : Pinned := { name := "ytndelndgioojgaadoor", sum := "85c240215d0e3a0d37d81db4882083c03f18eb906808ceab756484ffc46df8bd", checked := Tryd.checked }
namespace Rows
def none {H : Type} : Left H := { results := [], args := [] }

/- WHAT THE LISTED PACKAGE-LEVEL VARIABLES READ AS WHEN THE CALL BEGINS. Each datum BY PROGRAM (the guide's laid-datum.mjs) off the statement by which the dump's own 'gosem.cut.vars' lays the variable. In a bare row this is a premise. The card (YtndelndgioojgaaDoorCards.lean) ties it to the program's text. -/
def laid_vespers_crc_table {H : Type} : DataW H := .agg [.lit (.int .u32 0), .lit (.int .u32 498536548), .lit (.int .u32 997073096), .lit (.int .u32 651767980), .lit (.int .u32 1994146192), .lit (.int .u32 1802195444), .lit (.int .u32 1303535960), .lit (.int .u32 1342533948), .lit (.int .u32 3988292384), .lit (.int .u32 4027552580), .lit (.int .u32 3604390888), .lit (.int .u32 3412177804), .lit (.int .u32 2607071920), .lit (.int .u32 2262029012), .lit (.int .u32 2685067896), .lit (.int .u32 3183342108)]

/-- 'vesperslaw07.WalRoom': WHATEVER THE INPUT: true; the input reads as it did. -/
def walRoomSpec : ChangeSpec := { name := "walRoom", fn := fun _ => fun
  | [d1, d2] => { results := [.lit (.bool true)], args := [d1, d2] }
  | _ => none }
def walRoomRow : OpenClaim := { program := "ytndelndgioojgaadoor", sum := "85c240215d0e3a0d37d81db4882083c03f18eb906808ceab756484ffc46df8bd", func := "vespers/vesperslaw07.WalRoom", spec := "walRoom", unfollowed := true, recurses := true, named := ["vespers/crc.table"], apart := false, laid := [("vespers/crc.table", laid_vespers_crc_table)] }
def WalRoomSaid : Prop := walRoomRow.holds Tryd.pinned (OpenSpec.ofChange walRoomSpec)

/-- ITS FALSE NEIGHBOUR: 'it returns false'. Refute it at one input. -/
def walRoomWrong : ChangeSpec := { name := "walRoom", fn := fun _ => fun
  | [d1, d2] => { results := [.lit (.bool false)], args := [d1, d2] }
  | _ => none }
def WalRoomWrongFalsely : Prop := walRoomRow.holds Tryd.pinned (OpenSpec.ofChange walRoomWrong)

/-- 'vesperslaw07.WalRows': WHATEVER THE INPUT: true; the input reads as it did. -/
def walRowsSpec : ChangeSpec := { name := "walRows", fn := fun _ => fun
  | [d1, d2] => { results := [.lit (.bool true)], args := [d1, d2] }
  | _ => none }
def walRowsRow : OpenClaim := { program := "ytndelndgioojgaadoor", sum := "85c240215d0e3a0d37d81db4882083c03f18eb906808ceab756484ffc46df8bd", func := "vespers/vesperslaw07.WalRows", spec := "walRows", unfollowed := true, recurses := true, named := ["vespers/crc.table"], apart := false, laid := [("vespers/crc.table", laid_vespers_crc_table)] }
def WalRowsSaid : Prop := walRowsRow.holds Tryd.pinned (OpenSpec.ofChange walRowsSpec)

/-- ITS FALSE NEIGHBOUR: 'it returns false'. Refute it at one input. -/
def walRowsWrong : ChangeSpec := { name := "walRows", fn := fun _ => fun
  | [d1, d2] => { results := [.lit (.bool false)], args := [d1, d2] }
  | _ => none }
def WalRowsWrongFalsely : Prop := walRowsRow.holds Tryd.pinned (OpenSpec.ofChange walRowsWrong)

/-- 'vesperslaw07.WalKeeps': WHATEVER THE INPUT: true; the input reads as it did. -/
def walKeepsSpec : ChangeSpec := { name := "walKeeps", fn := fun _ => fun
  | [d1, d2] => { results := [.lit (.bool true)], args := [d1, d2] }
  | _ => none }
def walKeepsRow : OpenClaim := { program := "ytndelndgioojgaadoor", sum := "85c240215d0e3a0d37d81db4882083c03f18eb906808ceab756484ffc46df8bd", func := "vespers/vesperslaw07.WalKeeps", spec := "walKeeps", unfollowed := true, recurses := true, named := ["vespers/crc.table"], apart := false, laid := [("vespers/crc.table", laid_vespers_crc_table)] }
def WalKeepsSaid : Prop := walKeepsRow.holds Tryd.pinned (OpenSpec.ofChange walKeepsSpec)

/-- ITS FALSE NEIGHBOUR: 'it returns false'. Refute it at one input. -/
def walKeepsWrong : ChangeSpec := { name := "walKeeps", fn := fun _ => fun
  | [d1, d2] => { results := [.lit (.bool false)], args := [d1, d2] }
  | _ => none }
def WalKeepsWrongFalsely : Prop := walKeepsRow.holds Tryd.pinned (OpenSpec.ofChange walKeepsWrong)

/- THE SECOND FORM. 'bulk': how many values and letters a reading holds, each counted each time it is reached (what is shared counts as often as it is met; a slice's spare places count too). A statement '..UptoSaid' is the law's where the arguments, and the package variables that the reading takes, are together of bulk at most 1048576: NARROWER than '..Said'. Prove '..Said' where nothing that the law and all that it calls make is longer than what came in: it says more and counts as full. Else prove '..UptoSaid'. A law counts once. -/
mutual
def uptoBulk {H : Type} : DataW H → Nat
  | .lit (.string bytes) => bytes.length + 1
  | .lit _ => 1
  | .nil => 1
  | .ptr d => uptoBulk d + 1
  | .slice elems spare => uptoBulkAll elems + uptoBulkAll spare + 1
  | .agg parts => uptoBulkAll parts + 1
  | .iface _ d => uptoBulk d + 1
  | .map entries => uptoBulkEntries entries + 1
  | .held _ => 1
def uptoBulkAll {H : Type} : List (DataW H) → Nat
  | [] => 0
  | d :: r => uptoBulk d + uptoBulkAll r
def uptoBulkEntries {H : Type} : List (Lit × DataW H) → Nat
  | [] => 0
  | x :: r => uptoBulkEntry x + uptoBulkEntries r
def uptoBulkEntry {H : Type} : Lit × DataW H → Nat
  | (.string bytes, d) => bytes.length + uptoBulk d + 1
  | (_, d) => uptoBulk d + 1
 end
def uptoSmall : (H : Type) → List (DataW H) → Bool := fun _ ds => decide (uptoBulkAll ds ≤ 1048576)
def OpenSpec.upto (s : _root_.Go.ChangeSpec) : _root_.Go.OpenSpec := { _root_.Go.OpenSpec.ofChange s with cond := some uptoSmall }

/-- 'vesperslaw07.WalRoom', WHERE WHAT IT READS IS OF BULK AT MOST 1048576: true; the input reads as it did. -/
def walRoomUptoRow : OpenClaim := { program := "ytndelndgioojgaadoor", sum := "85c240215d0e3a0d37d81db4882083c03f18eb906808ceab756484ffc46df8bd", func := "vespers/vesperslaw07.WalRoom", spec := "walRoom", unfollowed := true, recurses := true, named := ["vespers/crc.table"], apart := false, laid := [("vespers/crc.table", laid_vespers_crc_table)], narrowed := true }
def WalRoomUptoSaid : Prop := walRoomUptoRow.holds Tryd.pinned (OpenSpec.upto walRoomSpec)

/-- 'vesperslaw07.WalRows', WHERE WHAT IT READS IS OF BULK AT MOST 1048576: true; the input reads as it did. -/
def walRowsUptoRow : OpenClaim := { program := "ytndelndgioojgaadoor", sum := "85c240215d0e3a0d37d81db4882083c03f18eb906808ceab756484ffc46df8bd", func := "vespers/vesperslaw07.WalRows", spec := "walRows", unfollowed := true, recurses := true, named := ["vespers/crc.table"], apart := false, laid := [("vespers/crc.table", laid_vespers_crc_table)], narrowed := true }
def WalRowsUptoSaid : Prop := walRowsUptoRow.holds Tryd.pinned (OpenSpec.upto walRowsSpec)

/-- 'vesperslaw07.WalKeeps', WHERE WHAT IT READS IS OF BULK AT MOST 1048576: true; the input reads as it did. -/
def walKeepsUptoRow : OpenClaim := { program := "ytndelndgioojgaadoor", sum := "85c240215d0e3a0d37d81db4882083c03f18eb906808ceab756484ffc46df8bd", func := "vespers/vesperslaw07.WalKeeps", spec := "walKeeps", unfollowed := true, recurses := true, named := ["vespers/crc.table"], apart := false, laid := [("vespers/crc.table", laid_vespers_crc_table)], narrowed := true }
def WalKeepsUptoSaid : Prop := walKeepsUptoRow.holds Tryd.pinned (OpenSpec.upto walKeepsSpec)

end Rows
end Go.Proofs.YtndelndgioojgaaDoor
