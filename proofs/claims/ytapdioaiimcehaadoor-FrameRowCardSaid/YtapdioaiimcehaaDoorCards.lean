/-
  DERIVED. GIVEN WITH THE SEED: THE CARDS: each row of YtapdioaiimcehaaDoorRows.lean that lists a variable, with what it lists TIED to the program's text (the seventh form; the later family's looks); each row that meets fmt, with fmt's text TOLD by the authors' own Lean function (tested against real Go, not proved from fmt's source: count such statements apart). THE CARD IS WHAT COUNTS. Prove the row's statement (the work); the ties are given (YtapdioaiimcehaaDoorTie.lean); close each card by the builder's one call (the guide's Derived/Test/ToyasCard.lean, 'card_holds'). Laid BY PROGRAM, IN A SANDBOX (cutbox-door.mjs). By AI agents, Wed Nov 11 2026. No macro, syntax, notation, axiom, sorry.
-/
import Derived.Test.YtapdioaiimcehaaDoorRows
import GoSem.ClaimSeven
namespace Go.Proofs.YtapdioaiimcehaaDoor
namespace Rows

/-- THE TIED CARD OF 'vesperslaw06.FrameGets'. -/
def frameGetsCard : Claim7 := { stood := { row := frameGetsRow, standIns := [], harness := (true, "8325c4d37b11930863aa91a79ebc99340b6d739d91bd924ecb592d90f83a2f4c"), looks := false }, kinds := [], alts := [], laidByText := true, laidKinds := [.data], laidTests := true, laidLooks := .later }
def FrameGetsCardSaid : Prop := Claim7.holds Tryd.pinned (.plain (OpenSpec.ofChange frameGetsSpec)) frameGetsCard

/-- THE TIED CARD OF 'vesperslaw06.FramePuts'. -/
def framePutsCard : Claim7 := { stood := { row := framePutsRow, standIns := [], harness := (true, "8325c4d37b11930863aa91a79ebc99340b6d739d91bd924ecb592d90f83a2f4c"), looks := false }, kinds := [], alts := [], laidByText := true, laidKinds := [.data], laidTests := true, laidLooks := .later }
def FramePutsCardSaid : Prop := Claim7.holds Tryd.pinned (.plain (OpenSpec.ofChange framePutsSpec)) framePutsCard

/-- THE TIED CARD OF 'vesperslaw06.FrameOnly'. -/
def frameOnlyCard : Claim7 := { stood := { row := frameOnlyRow, standIns := [], harness := (true, "8325c4d37b11930863aa91a79ebc99340b6d739d91bd924ecb592d90f83a2f4c"), looks := false }, kinds := [], alts := [], laidByText := true, laidKinds := [.data], laidTests := true, laidLooks := .later }
def FrameOnlyCardSaid : Prop := Claim7.holds Tryd.pinned (.plain (OpenSpec.ofChange frameOnlySpec)) frameOnlyCard

/-- THE TIED CARD OF 'vesperslaw06.FrameRow'. -/
def frameRowCard : Claim7 := { stood := { row := frameRowRow, standIns := [], harness := (true, "8325c4d37b11930863aa91a79ebc99340b6d739d91bd924ecb592d90f83a2f4c"), looks := false }, kinds := [], alts := [], laidByText := true, laidKinds := [.data], laidTests := true, laidLooks := .later }
def FrameRowCardSaid : Prop := Claim7.holds Tryd.pinned (.plain (OpenSpec.ofChange frameRowSpec)) frameRowCard

/-- THE TIED CARD OF 'vesperslaw06.FrameApart'. -/
def frameApartCard : Claim7 := { stood := { row := frameApartRow, standIns := [], harness := (true, "8325c4d37b11930863aa91a79ebc99340b6d739d91bd924ecb592d90f83a2f4c"), looks := false }, kinds := [], alts := [], laidByText := true, laidKinds := [.data], laidTests := true, laidLooks := .later }
def FrameApartCardSaid : Prop := Claim7.holds Tryd.pinned (.plain (OpenSpec.ofChange frameApartSpec)) frameApartCard

/-- THE SECOND FORM's CARD OF 'vesperslaw06.FrameGets'. -/
def frameGetsUptoCard : Claim7 := { stood := { row := frameGetsUptoRow, standIns := [], harness := (true, "8325c4d37b11930863aa91a79ebc99340b6d739d91bd924ecb592d90f83a2f4c"), looks := false }, kinds := [], alts := [], laidByText := true, laidKinds := [.data], laidTests := true, laidLooks := .later }
def FrameGetsUptoCardSaid : Prop := Claim7.holds Tryd.pinned (.plain (OpenSpec.upto frameGetsSpec)) frameGetsUptoCard

/-- THE SECOND FORM's CARD OF 'vesperslaw06.FramePuts'. -/
def framePutsUptoCard : Claim7 := { stood := { row := framePutsUptoRow, standIns := [], harness := (true, "8325c4d37b11930863aa91a79ebc99340b6d739d91bd924ecb592d90f83a2f4c"), looks := false }, kinds := [], alts := [], laidByText := true, laidKinds := [.data], laidTests := true, laidLooks := .later }
def FramePutsUptoCardSaid : Prop := Claim7.holds Tryd.pinned (.plain (OpenSpec.upto framePutsSpec)) framePutsUptoCard

/-- THE SECOND FORM's CARD OF 'vesperslaw06.FrameOnly'. -/
def frameOnlyUptoCard : Claim7 := { stood := { row := frameOnlyUptoRow, standIns := [], harness := (true, "8325c4d37b11930863aa91a79ebc99340b6d739d91bd924ecb592d90f83a2f4c"), looks := false }, kinds := [], alts := [], laidByText := true, laidKinds := [.data], laidTests := true, laidLooks := .later }
def FrameOnlyUptoCardSaid : Prop := Claim7.holds Tryd.pinned (.plain (OpenSpec.upto frameOnlySpec)) frameOnlyUptoCard

/-- THE SECOND FORM's CARD OF 'vesperslaw06.FrameRow'. -/
def frameRowUptoCard : Claim7 := { stood := { row := frameRowUptoRow, standIns := [], harness := (true, "8325c4d37b11930863aa91a79ebc99340b6d739d91bd924ecb592d90f83a2f4c"), looks := false }, kinds := [], alts := [], laidByText := true, laidKinds := [.data], laidTests := true, laidLooks := .later }
def FrameRowUptoCardSaid : Prop := Claim7.holds Tryd.pinned (.plain (OpenSpec.upto frameRowSpec)) frameRowUptoCard

/-- THE SECOND FORM's CARD OF 'vesperslaw06.FrameApart'. -/
def frameApartUptoCard : Claim7 := { stood := { row := frameApartUptoRow, standIns := [], harness := (true, "8325c4d37b11930863aa91a79ebc99340b6d739d91bd924ecb592d90f83a2f4c"), looks := false }, kinds := [], alts := [], laidByText := true, laidKinds := [.data], laidTests := true, laidLooks := .later }
def FrameApartUptoCardSaid : Prop := Claim7.holds Tryd.pinned (.plain (OpenSpec.upto frameApartSpec)) frameApartUptoCard
end Rows
end Go.Proofs.YtapdioaiimcehaaDoor
