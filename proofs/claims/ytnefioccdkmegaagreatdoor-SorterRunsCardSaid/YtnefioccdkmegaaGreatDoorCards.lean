/-
  DERIVED. GIVEN WITH THE SEED: THE CARDS: each row of YtnefioccdkmegaaGreatDoorRows.lean that lists a variable, with what it lists TIED to the program's text (the seventh form; the later family's looks); each row that meets fmt, with fmt's text TOLD by the authors' own Lean function (tested against real Go, not proved from fmt's source: count such statements apart). THE CARD IS WHAT COUNTS. Prove the row's statement (the work); the ties are given (YtnefioccdkmegaaGreatDoorTie.lean); close each card by the builder's one call (the guide's Derived/Test/ToyasCard.lean, 'card_holds'). Laid BY PROGRAM, IN A SANDBOX (cutbox-door.mjs). By AI agents, Wed Nov 11 2026. No macro, syntax, notation, axiom, sorry.
-/
import Derived.Test.YtnefioccdkmegaaGreatDoorRows
import GoSem.ClaimSeven
namespace Go.Proofs.YtnefioccdkmegaaGreatDoor
namespace Rows

/-- THE TIED CARD OF 'headracelaw10.SorterSorts'. -/
def sorterSortsCard : Claim7 := { stood := { row := sorterSortsRow, standIns := [], harness := (true, "c37a956712d5f7a2323092da71f5fee4e53d6fbe199d99c859c75ea011fc099c"), looks := true }, kinds := [], alts := [], laidByText := true, laidKinds := [.data, .data, .data, .data], laidTests := true, laidLooks := .later }
def SorterSortsCardSaid : Prop := Claim7.holds Tryz.pinned (.plain (OpenSpec.ofChange sorterSortsSpec)) sorterSortsCard

/-- THE TIED CARD OF 'headracelaw10.SorterFull'. -/
def sorterFullCard : Claim7 := { stood := { row := sorterFullRow, standIns := [], harness := (true, "c37a956712d5f7a2323092da71f5fee4e53d6fbe199d99c859c75ea011fc099c"), looks := true }, kinds := [], alts := [], laidByText := true, laidKinds := [.data, .data, .data, .data], laidTests := true, laidLooks := .later }
def SorterFullCardSaid : Prop := Claim7.holds Tryz.pinned (.plain (OpenSpec.ofChange sorterFullSpec)) sorterFullCard

/-- THE TIED CARD OF 'headracelaw10.SorterPlans'. -/
def sorterPlansCard : Claim7 := { stood := { row := sorterPlansRow, standIns := [], harness := (true, "c37a956712d5f7a2323092da71f5fee4e53d6fbe199d99c859c75ea011fc099c"), looks := true }, kinds := [], alts := [], laidByText := true, laidKinds := [.data, .data, .data, .data], laidTests := true, laidLooks := .later }
def SorterPlansCardSaid : Prop := Claim7.holds Tryz.pinned (.plain (OpenSpec.ofChange sorterPlansSpec)) sorterPlansCard

/-- THE TIED CARD OF 'headracelaw10.SorterErrs'. -/
def sorterErrsCard : Claim7 := { stood := { row := sorterErrsRow, standIns := [], harness := (true, "c37a956712d5f7a2323092da71f5fee4e53d6fbe199d99c859c75ea011fc099c"), looks := true }, kinds := [], alts := [], laidByText := true, laidKinds := [.data, .data, .data, .data], laidTests := true, laidLooks := .later }
def SorterErrsCardSaid : Prop := Claim7.holds Tryz.pinned (.plain (OpenSpec.ofChange sorterErrsSpec)) sorterErrsCard

/-- THE TIED CARD OF 'headracelaw10.SorterRuns'. -/
def sorterRunsCard : Claim7 := { stood := { row := sorterRunsRow, standIns := [], harness := (true, "c37a956712d5f7a2323092da71f5fee4e53d6fbe199d99c859c75ea011fc099c"), looks := true }, kinds := [], alts := [], laidByText := true, laidKinds := [.data, .data, .data, .data], laidTests := true, laidLooks := .later }
def SorterRunsCardSaid : Prop := Claim7.holds Tryz.pinned (.plain (OpenSpec.ofChange sorterRunsSpec)) sorterRunsCard

/-- THE TIED CARD OF 'headracelaw10.SorterFalls'. -/
def sorterFallsCard : Claim7 := { stood := { row := sorterFallsRow, standIns := [], harness := (true, "c37a956712d5f7a2323092da71f5fee4e53d6fbe199d99c859c75ea011fc099c"), looks := true }, kinds := [], alts := [], laidByText := true, laidKinds := [.data, .data, .data, .data], laidTests := true, laidLooks := .later }
def SorterFallsCardSaid : Prop := Claim7.holds Tryz.pinned (.plain (OpenSpec.ofChange sorterFallsSpec)) sorterFallsCard

/-- THE SECOND FORM's CARD OF 'headracelaw10.SorterSorts'. -/
def sorterSortsUptoCard : Claim7 := { stood := { row := sorterSortsUptoRow, standIns := [], harness := (true, "c37a956712d5f7a2323092da71f5fee4e53d6fbe199d99c859c75ea011fc099c"), looks := true }, kinds := [], alts := [], laidByText := true, laidKinds := [.data, .data, .data, .data], laidTests := true, laidLooks := .later }
def SorterSortsUptoCardSaid : Prop := Claim7.holds Tryz.pinned (.plain (OpenSpec.upto sorterSortsSpec)) sorterSortsUptoCard

/-- THE SECOND FORM's CARD OF 'headracelaw10.SorterFull'. -/
def sorterFullUptoCard : Claim7 := { stood := { row := sorterFullUptoRow, standIns := [], harness := (true, "c37a956712d5f7a2323092da71f5fee4e53d6fbe199d99c859c75ea011fc099c"), looks := true }, kinds := [], alts := [], laidByText := true, laidKinds := [.data, .data, .data, .data], laidTests := true, laidLooks := .later }
def SorterFullUptoCardSaid : Prop := Claim7.holds Tryz.pinned (.plain (OpenSpec.upto sorterFullSpec)) sorterFullUptoCard

/-- THE SECOND FORM's CARD OF 'headracelaw10.SorterPlans'. -/
def sorterPlansUptoCard : Claim7 := { stood := { row := sorterPlansUptoRow, standIns := [], harness := (true, "c37a956712d5f7a2323092da71f5fee4e53d6fbe199d99c859c75ea011fc099c"), looks := true }, kinds := [], alts := [], laidByText := true, laidKinds := [.data, .data, .data, .data], laidTests := true, laidLooks := .later }
def SorterPlansUptoCardSaid : Prop := Claim7.holds Tryz.pinned (.plain (OpenSpec.upto sorterPlansSpec)) sorterPlansUptoCard

/-- THE SECOND FORM's CARD OF 'headracelaw10.SorterErrs'. -/
def sorterErrsUptoCard : Claim7 := { stood := { row := sorterErrsUptoRow, standIns := [], harness := (true, "c37a956712d5f7a2323092da71f5fee4e53d6fbe199d99c859c75ea011fc099c"), looks := true }, kinds := [], alts := [], laidByText := true, laidKinds := [.data, .data, .data, .data], laidTests := true, laidLooks := .later }
def SorterErrsUptoCardSaid : Prop := Claim7.holds Tryz.pinned (.plain (OpenSpec.upto sorterErrsSpec)) sorterErrsUptoCard

/-- THE SECOND FORM's CARD OF 'headracelaw10.SorterRuns'. -/
def sorterRunsUptoCard : Claim7 := { stood := { row := sorterRunsUptoRow, standIns := [], harness := (true, "c37a956712d5f7a2323092da71f5fee4e53d6fbe199d99c859c75ea011fc099c"), looks := true }, kinds := [], alts := [], laidByText := true, laidKinds := [.data, .data, .data, .data], laidTests := true, laidLooks := .later }
def SorterRunsUptoCardSaid : Prop := Claim7.holds Tryz.pinned (.plain (OpenSpec.upto sorterRunsSpec)) sorterRunsUptoCard

/-- THE SECOND FORM's CARD OF 'headracelaw10.SorterFalls'. -/
def sorterFallsUptoCard : Claim7 := { stood := { row := sorterFallsUptoRow, standIns := [], harness := (true, "c37a956712d5f7a2323092da71f5fee4e53d6fbe199d99c859c75ea011fc099c"), looks := true }, kinds := [], alts := [], laidByText := true, laidKinds := [.data, .data, .data, .data], laidTests := true, laidLooks := .later }
def SorterFallsUptoCardSaid : Prop := Claim7.holds Tryz.pinned (.plain (OpenSpec.upto sorterFallsSpec)) sorterFallsUptoCard
end Rows
end Go.Proofs.YtnefioccdkmegaaGreatDoor
