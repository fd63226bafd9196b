/-
  DERIVED. GIVEN WITH THE SEED: THE CARDS: each row of YtpaekffehfdmgaaGreatDoorRows.lean that lists a variable, with what it lists TIED to the program's text (the seventh form; the later family's looks); each row that meets fmt, with fmt's text TOLD by the authors' own Lean function (tested against real Go, not proved from fmt's source: count such statements apart). THE CARD IS WHAT COUNTS. Prove the row's statement (the work); the ties are given (YtpaekffehfdmgaaGreatDoorTie.lean); close each card by the builder's one call (the guide's Derived/Test/ToyasCard.lean, 'card_holds'). Laid BY PROGRAM, IN A SANDBOX (cutbox-door.mjs). By AI agents, Wed Nov 11 2026. No macro, syntax, notation, axiom, sorry.
-/
import Derived.Test.YtpaekffehfdmgaaGreatDoorRows
import GoSem.ClaimSeven
namespace Go.Proofs.YtpaekffehfdmgaaGreatDoor
namespace Rows

/-- THE TIED CARD OF 'waystationtop.WholeLogged'. -/
def wholeLoggedCard : Claim7 := { stood := { row := wholeLoggedRow, standIns := [], harness := (true, "4c403489770f3f5d1be84e0e4ca7441648d96a677c9c34a7c11199eb7f8d9be9"), looks := true }, kinds := [], alts := [], laidByText := true, laidKinds := [.data, .pinned], laidTests := true, laidLooks := .later }
def WholeLoggedCardSaid : Prop := Claim7.holds Tryz.pinned (.plain (OpenSpec.ofChange wholeLoggedSpec)) wholeLoggedCard

/-- THE TIED CARD OF 'waystationtop.WholeDurable'. -/
def wholeDurableCard : Claim7 := { stood := { row := wholeDurableRow, standIns := [], harness := (true, "4c403489770f3f5d1be84e0e4ca7441648d96a677c9c34a7c11199eb7f8d9be9"), looks := true }, kinds := [], alts := [], laidByText := true, laidKinds := [.data, .pinned], laidTests := true, laidLooks := .later }
def WholeDurableCardSaid : Prop := Claim7.holds Tryz.pinned (.plain (OpenSpec.ofChange wholeDurableSpec)) wholeDurableCard

/-- THE SECOND FORM's CARD OF 'waystationtop.WholeLogged'. -/
def wholeLoggedUptoCard : Claim7 := { stood := { row := wholeLoggedUptoRow, standIns := [], harness := (true, "4c403489770f3f5d1be84e0e4ca7441648d96a677c9c34a7c11199eb7f8d9be9"), looks := true }, kinds := [], alts := [], laidByText := true, laidKinds := [.data, .pinned], laidTests := true, laidLooks := .later }
def WholeLoggedUptoCardSaid : Prop := Claim7.holds Tryz.pinned (.plain (OpenSpec.upto wholeLoggedSpec)) wholeLoggedUptoCard

/-- THE SECOND FORM's CARD OF 'waystationtop.WholeDurable'. -/
def wholeDurableUptoCard : Claim7 := { stood := { row := wholeDurableUptoRow, standIns := [], harness := (true, "4c403489770f3f5d1be84e0e4ca7441648d96a677c9c34a7c11199eb7f8d9be9"), looks := true }, kinds := [], alts := [], laidByText := true, laidKinds := [.data, .pinned], laidTests := true, laidLooks := .later }
def WholeDurableUptoCardSaid : Prop := Claim7.holds Tryz.pinned (.plain (OpenSpec.upto wholeDurableSpec)) wholeDurableUptoCard
end Rows
end Go.Proofs.YtpaekffehfdmgaaGreatDoor
