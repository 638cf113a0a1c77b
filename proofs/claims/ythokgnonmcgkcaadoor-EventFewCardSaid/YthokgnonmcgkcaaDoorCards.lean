/-
  DERIVED. GIVEN WITH THE SEED: THE CARDS: each row of YthokgnonmcgkcaaDoorRows.lean that lists a variable, with what it lists TIED to the program's text (the seventh form; the later family's looks); each row that meets fmt, with fmt's text TOLD by the authors' own Lean function (tested against real Go, not proved from fmt's source: count such statements apart). THE CARD IS WHAT COUNTS. Prove the row's statement (the work); the ties are given (YthokgnonmcgkcaaDoorTie.lean); close each card by the builder's one call (the guide's Derived/Test/ToyasCard.lean, 'card_holds'). Laid BY PROGRAM, IN A SANDBOX (cutbox-door.mjs). By AI agents, Wed Nov 11 2026. No macro, syntax, notation, axiom, sorry.
-/
import Derived.Test.YthokgnonmcgkcaaDoorRows
import GoSem.ClaimSeven
namespace Go.Proofs.YthokgnonmcgkcaaDoor
namespace Rows

/-- THE TIED CARD OF 'headracelaw06.EventReads'. -/
def eventReadsCard : Claim7 := { stood := { row := eventReadsRow, standIns := [], harness := (true, "bb691b95f1e2436a06044c789fa8bc3869db2cd56424ff47b7048b4b777a1dd3"), looks := true }, kinds := [], alts := [], laidByText := true, laidKinds := [.data], laidTests := true, laidLooks := .later }
def EventReadsCardSaid : Prop := Claim7.holds Tryd.pinned (.plain (OpenSpec.ofChange eventReadsSpec)) eventReadsCard

/-- THE TIED CARD OF 'headracelaw06.EventFew'. -/
def eventFewCard : Claim7 := { stood := { row := eventFewRow, standIns := [], harness := (true, "bb691b95f1e2436a06044c789fa8bc3869db2cd56424ff47b7048b4b777a1dd3"), looks := true }, kinds := [], alts := [], laidByText := true, laidKinds := [.data], laidTests := true, laidLooks := .later }
def EventFewCardSaid : Prop := Claim7.holds Tryd.pinned (.plain (OpenSpec.ofChange eventFewSpec)) eventFewCard

/-- THE SECOND FORM's CARD OF 'headracelaw06.EventReads'. -/
def eventReadsUptoCard : Claim7 := { stood := { row := eventReadsUptoRow, standIns := [], harness := (true, "bb691b95f1e2436a06044c789fa8bc3869db2cd56424ff47b7048b4b777a1dd3"), looks := true }, kinds := [], alts := [], laidByText := true, laidKinds := [.data], laidTests := true, laidLooks := .later }
def EventReadsUptoCardSaid : Prop := Claim7.holds Tryd.pinned (.plain (OpenSpec.upto eventReadsSpec)) eventReadsUptoCard

/-- THE SECOND FORM's CARD OF 'headracelaw06.EventFew'. -/
def eventFewUptoCard : Claim7 := { stood := { row := eventFewUptoRow, standIns := [], harness := (true, "bb691b95f1e2436a06044c789fa8bc3869db2cd56424ff47b7048b4b777a1dd3"), looks := true }, kinds := [], alts := [], laidByText := true, laidKinds := [.data], laidTests := true, laidLooks := .later }
def EventFewUptoCardSaid : Prop := Claim7.holds Tryd.pinned (.plain (OpenSpec.upto eventFewSpec)) eventFewUptoCard
end Rows
end Go.Proofs.YthokgnonmcgkcaaDoor
