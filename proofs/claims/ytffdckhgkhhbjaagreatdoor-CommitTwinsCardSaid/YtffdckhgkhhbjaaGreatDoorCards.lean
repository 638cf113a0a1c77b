/-
  DERIVED. GIVEN WITH THE SEED: THE CARDS: each row of YtffdckhgkhhbjaaGreatDoorRows.lean that lists a variable, with what it lists TIED to the program's text (the seventh form; the later family's looks); each row that meets fmt, with fmt's text TOLD by the authors' own Lean function (tested against real Go, not proved from fmt's source: count such statements apart). THE CARD IS WHAT COUNTS. Prove the row's statement (the work); the ties are given (YtffdckhgkhhbjaaGreatDoorTie.lean); close each card by the builder's one call (the guide's Derived/Test/ToyasCard.lean, 'card_holds'). Laid BY PROGRAM, IN A SANDBOX (cutbox-door.mjs). By AI agents, Wed Nov 11 2026. No macro, syntax, notation, axiom, sorry.
-/
import Derived.Test.YtffdckhgkhhbjaaGreatDoorRows
import GoSem.ClaimSeven
namespace Go.Proofs.YtffdckhgkhhbjaaGreatDoor
namespace Rows

/-- THE TIED CARD OF 'headracelaw18.CommitPlays'. -/
def commitPlaysCard : Claim7 := { stood := { row := commitPlaysRow, standIns := [], harness := (true, "a08cbbe12b8e4ba5ea4e652baff8ddb686c58059a69f697042d196d5c9174449"), looks := true }, kinds := [], alts := [], laidByText := true, laidKinds := [.data, .data, .data, .data, .sentinel, .sentinel], laidTests := true, laidLooks := .later }
def CommitPlaysCardSaid : Prop := Claim7.holds Tryz.pinned (.plain (OpenSpec.ofChange commitPlaysSpec)) commitPlaysCard

/-- THE TIED CARD OF 'headracelaw18.CommitMissing'. -/
def commitMissingCard : Claim7 := { stood := { row := commitMissingRow, standIns := [], harness := (true, "a08cbbe12b8e4ba5ea4e652baff8ddb686c58059a69f697042d196d5c9174449"), looks := true }, kinds := [], alts := [], laidByText := true, laidKinds := [.data, .data, .data, .data, .sentinel, .sentinel], laidTests := true, laidLooks := .later }
def CommitMissingCardSaid : Prop := Claim7.holds Tryz.pinned (.plain (OpenSpec.ofChange commitMissingSpec)) commitMissingCard

/-- THE TIED CARD OF 'headracelaw18.CommitTwins'. -/
def commitTwinsCard : Claim7 := { stood := { row := commitTwinsRow, standIns := [], harness := (true, "a08cbbe12b8e4ba5ea4e652baff8ddb686c58059a69f697042d196d5c9174449"), looks := true }, kinds := [], alts := [], laidByText := true, laidKinds := [.data, .data, .data, .data, .sentinel, .sentinel], laidTests := true, laidLooks := .later }
def CommitTwinsCardSaid : Prop := Claim7.holds Tryz.pinned (.plain (OpenSpec.ofChange commitTwinsSpec)) commitTwinsCard

/-- THE TIED CARD OF 'headracelaw18.CommitFalls'. -/
def commitFallsCard : Claim7 := { stood := { row := commitFallsRow, standIns := [], harness := (true, "a08cbbe12b8e4ba5ea4e652baff8ddb686c58059a69f697042d196d5c9174449"), looks := true }, kinds := [], alts := [], laidByText := true, laidKinds := [.data, .data, .data, .data, .sentinel, .sentinel], laidTests := true, laidLooks := .later }
def CommitFallsCardSaid : Prop := Claim7.holds Tryz.pinned (.plain (OpenSpec.ofChange commitFallsSpec)) commitFallsCard

/-- THE SECOND FORM's CARD OF 'headracelaw18.CommitPlays'. -/
def commitPlaysUptoCard : Claim7 := { stood := { row := commitPlaysUptoRow, standIns := [], harness := (true, "a08cbbe12b8e4ba5ea4e652baff8ddb686c58059a69f697042d196d5c9174449"), looks := true }, kinds := [], alts := [], laidByText := true, laidKinds := [.data, .data, .data, .data, .sentinel, .sentinel], laidTests := true, laidLooks := .later }
def CommitPlaysUptoCardSaid : Prop := Claim7.holds Tryz.pinned (.plain (OpenSpec.upto commitPlaysSpec)) commitPlaysUptoCard

/-- THE SECOND FORM's CARD OF 'headracelaw18.CommitMissing'. -/
def commitMissingUptoCard : Claim7 := { stood := { row := commitMissingUptoRow, standIns := [], harness := (true, "a08cbbe12b8e4ba5ea4e652baff8ddb686c58059a69f697042d196d5c9174449"), looks := true }, kinds := [], alts := [], laidByText := true, laidKinds := [.data, .data, .data, .data, .sentinel, .sentinel], laidTests := true, laidLooks := .later }
def CommitMissingUptoCardSaid : Prop := Claim7.holds Tryz.pinned (.plain (OpenSpec.upto commitMissingSpec)) commitMissingUptoCard

/-- THE SECOND FORM's CARD OF 'headracelaw18.CommitTwins'. -/
def commitTwinsUptoCard : Claim7 := { stood := { row := commitTwinsUptoRow, standIns := [], harness := (true, "a08cbbe12b8e4ba5ea4e652baff8ddb686c58059a69f697042d196d5c9174449"), looks := true }, kinds := [], alts := [], laidByText := true, laidKinds := [.data, .data, .data, .data, .sentinel, .sentinel], laidTests := true, laidLooks := .later }
def CommitTwinsUptoCardSaid : Prop := Claim7.holds Tryz.pinned (.plain (OpenSpec.upto commitTwinsSpec)) commitTwinsUptoCard

/-- THE SECOND FORM's CARD OF 'headracelaw18.CommitFalls'. -/
def commitFallsUptoCard : Claim7 := { stood := { row := commitFallsUptoRow, standIns := [], harness := (true, "a08cbbe12b8e4ba5ea4e652baff8ddb686c58059a69f697042d196d5c9174449"), looks := true }, kinds := [], alts := [], laidByText := true, laidKinds := [.data, .data, .data, .data, .sentinel, .sentinel], laidTests := true, laidLooks := .later }
def CommitFallsUptoCardSaid : Prop := Claim7.holds Tryz.pinned (.plain (OpenSpec.upto commitFallsSpec)) commitFallsUptoCard
end Rows
end Go.Proofs.YtffdckhgkhhbjaaGreatDoor
