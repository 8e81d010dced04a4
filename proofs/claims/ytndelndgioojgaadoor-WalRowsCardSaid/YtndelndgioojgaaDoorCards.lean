/-
  DERIVED. GIVEN WITH THE SEED: THE CARDS: each row of YtndelndgioojgaaDoorRows.lean that lists a variable, with what it lists TIED to the program's text (the seventh form; the later family's looks); each row that meets fmt, with fmt's text TOLD by the authors' own Lean function (tested against real Go, not proved from fmt's source: count such statements apart). THE CARD IS WHAT COUNTS. Prove the row's statement (the work); the ties are given (YtndelndgioojgaaDoorTie.lean); close each card by the builder's one call (the guide's Derived/Test/ToyasCard.lean, 'card_holds'). Laid BY PROGRAM, IN A SANDBOX (cutbox-door.mjs). By AI agents, Wed Nov 11 2026. No macro, syntax, notation, axiom, sorry.
-/
import Derived.Test.YtndelndgioojgaaDoorRows
import GoSem.ClaimSeven
namespace Go.Proofs.YtndelndgioojgaaDoor
namespace Rows

/-- THE TIED CARD OF 'vesperslaw07.WalRoom'. -/
def walRoomCard : Claim7 := { stood := { row := walRoomRow, standIns := [], harness := (true, "1413b060981ca89828383414e5ea707fe204eda92f57ddb5baccbbfac9c88875"), looks := false }, kinds := [], alts := [], laidByText := true, laidKinds := [.data], laidTests := true, laidLooks := .later }
def WalRoomCardSaid : Prop := Claim7.holds Tryd.pinned (.plain (OpenSpec.ofChange walRoomSpec)) walRoomCard

/-- THE TIED CARD OF 'vesperslaw07.WalRows'. -/
def walRowsCard : Claim7 := { stood := { row := walRowsRow, standIns := [], harness := (true, "1413b060981ca89828383414e5ea707fe204eda92f57ddb5baccbbfac9c88875"), looks := false }, kinds := [], alts := [], laidByText := true, laidKinds := [.data], laidTests := true, laidLooks := .later }
def WalRowsCardSaid : Prop := Claim7.holds Tryd.pinned (.plain (OpenSpec.ofChange walRowsSpec)) walRowsCard

/-- THE TIED CARD OF 'vesperslaw07.WalKeeps'. -/
def walKeepsCard : Claim7 := { stood := { row := walKeepsRow, standIns := [], harness := (true, "1413b060981ca89828383414e5ea707fe204eda92f57ddb5baccbbfac9c88875"), looks := false }, kinds := [], alts := [], laidByText := true, laidKinds := [.data], laidTests := true, laidLooks := .later }
def WalKeepsCardSaid : Prop := Claim7.holds Tryd.pinned (.plain (OpenSpec.ofChange walKeepsSpec)) walKeepsCard

/-- THE SECOND FORM's CARD OF 'vesperslaw07.WalRoom'. -/
def walRoomUptoCard : Claim7 := { stood := { row := walRoomUptoRow, standIns := [], harness := (true, "1413b060981ca89828383414e5ea707fe204eda92f57ddb5baccbbfac9c88875"), looks := false }, kinds := [], alts := [], laidByText := true, laidKinds := [.data], laidTests := true, laidLooks := .later }
def WalRoomUptoCardSaid : Prop := Claim7.holds Tryd.pinned (.plain (OpenSpec.upto walRoomSpec)) walRoomUptoCard

/-- THE SECOND FORM's CARD OF 'vesperslaw07.WalRows'. -/
def walRowsUptoCard : Claim7 := { stood := { row := walRowsUptoRow, standIns := [], harness := (true, "1413b060981ca89828383414e5ea707fe204eda92f57ddb5baccbbfac9c88875"), looks := false }, kinds := [], alts := [], laidByText := true, laidKinds := [.data], laidTests := true, laidLooks := .later }
def WalRowsUptoCardSaid : Prop := Claim7.holds Tryd.pinned (.plain (OpenSpec.upto walRowsSpec)) walRowsUptoCard

/-- THE SECOND FORM's CARD OF 'vesperslaw07.WalKeeps'. -/
def walKeepsUptoCard : Claim7 := { stood := { row := walKeepsUptoRow, standIns := [], harness := (true, "1413b060981ca89828383414e5ea707fe204eda92f57ddb5baccbbfac9c88875"), looks := false }, kinds := [], alts := [], laidByText := true, laidKinds := [.data], laidTests := true, laidLooks := .later }
def WalKeepsUptoCardSaid : Prop := Claim7.holds Tryd.pinned (.plain (OpenSpec.upto walKeepsSpec)) walKeepsUptoCard
end Rows
end Go.Proofs.YtndelndgioojgaaDoor
