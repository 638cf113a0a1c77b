/-
  DERIVED. GIVEN WITH THE SEED: THE CARDS: each row of YthokgnonmcgkcaaGreatDoorRows.lean that lists a variable, with what it lists TIED to the program's text (the seventh form; the later family's looks); each row that meets fmt, with fmt's text TOLD by the authors' own Lean function (tested against real Go, not proved from fmt's source: count such statements apart). THE CARD IS WHAT COUNTS. Prove the row's statement (the work); the ties are given (YthokgnonmcgkcaaGreatDoorTie.lean); close each card by the builder's one call (the guide's Derived/Test/ToyasCard.lean, 'card_holds'). Laid BY PROGRAM, IN A SANDBOX (cutbox-door.mjs). By AI agents, Wed Nov 11 2026. No macro, syntax, notation, axiom, sorry.
-/
import Derived.Test.YthokgnonmcgkcaaGreatDoorRows
import GoSem.ClaimSeven
namespace Go.Proofs.YthokgnonmcgkcaaGreatDoor
namespace Rows

/-- THE TIED CARD OF 'headracelaw06.EventBack'. -/
def eventBackCard : Claim7 := { stood := { row := eventBackRow, standIns := [], harness := (true, "b8b90d9de63086a4dea49f4c6093f9d5c0c3af2c114e3e7362f35d8fd89dc6e9"), looks := true }, kinds := [], alts := [], laidByText := true, laidKinds := [.data], laidTests := true, laidLooks := .later }
def EventBackCardSaid : Prop := Claim7.holds Tryz.pinned (.plain (OpenSpec.ofChange eventBackSpec)) eventBackCard

/-- THE SECOND FORM's CARD OF 'headracelaw06.EventBack'. -/
def eventBackUptoCard : Claim7 := { stood := { row := eventBackUptoRow, standIns := [], harness := (true, "b8b90d9de63086a4dea49f4c6093f9d5c0c3af2c114e3e7362f35d8fd89dc6e9"), looks := true }, kinds := [], alts := [], laidByText := true, laidKinds := [.data], laidTests := true, laidLooks := .later }
def EventBackUptoCardSaid : Prop := Claim7.holds Tryz.pinned (.plain (OpenSpec.upto eventBackSpec)) eventBackUptoCard
end Rows
end Go.Proofs.YthokgnonmcgkcaaGreatDoor
