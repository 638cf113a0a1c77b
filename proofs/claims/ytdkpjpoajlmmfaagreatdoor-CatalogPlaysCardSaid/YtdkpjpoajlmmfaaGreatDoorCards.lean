/-
  DERIVED. GIVEN WITH THE SEED: THE CARDS: each row of YtdkpjpoajlmmfaaGreatDoorRows.lean that lists a variable, with what it lists TIED to the program's text (the seventh form; the later family's looks); each row that meets fmt, with fmt's text TOLD by the authors' own Lean function (tested against real Go, not proved from fmt's source: count such statements apart). THE CARD IS WHAT COUNTS. Prove the row's statement (the work); the ties are given (YtdkpjpoajlmmfaaGreatDoorTie.lean); close each card by the builder's one call (the guide's Derived/Test/ToyasCard.lean, 'card_holds'). Laid BY PROGRAM, IN A SANDBOX (cutbox-door.mjs). By AI agents, Wed Nov 11 2026. No macro, syntax, notation, axiom, sorry.
-/
import Derived.Test.YtdkpjpoajlmmfaaGreatDoorRows
import GoSem.ClaimSeven
namespace Go.Proofs.YtdkpjpoajlmmfaaGreatDoor
namespace Rows

/-- THE TIED CARD OF 'headracelaw08.CatalogScans'. -/
def catalogScansCard : Claim7 := { stood := { row := catalogScansRow, standIns := [], harness := (true, "a18c5ce5612ef8cdeb60ee420bc3621c8b00dfe244b04f7b936a390b1142a418"), looks := true }, kinds := [], alts := [], laidByText := true, laidKinds := [.data, .data, .data, .data], laidTests := true, laidLooks := .later }
def CatalogScansCardSaid : Prop := Claim7.holds Tryz.pinned (.plain (OpenSpec.ofChange catalogScansSpec)) catalogScansCard

/-- THE TIED CARD OF 'headracelaw08.CatalogTwins'. -/
def catalogTwinsCard : Claim7 := { stood := { row := catalogTwinsRow, standIns := [], harness := (true, "a18c5ce5612ef8cdeb60ee420bc3621c8b00dfe244b04f7b936a390b1142a418"), looks := true }, kinds := [], alts := [], laidByText := true, laidKinds := [.data, .data, .data, .data], laidTests := true, laidLooks := .later }
def CatalogTwinsCardSaid : Prop := Claim7.holds Tryz.pinned (.plain (OpenSpec.ofChange catalogTwinsSpec)) catalogTwinsCard

/-- THE TIED CARD OF 'headracelaw08.CatalogPlays'. -/
def catalogPlaysCard : Claim7 := { stood := { row := catalogPlaysRow, standIns := [], harness := (true, "a18c5ce5612ef8cdeb60ee420bc3621c8b00dfe244b04f7b936a390b1142a418"), looks := true }, kinds := [], alts := [], laidByText := true, laidKinds := [.data, .data, .data, .data], laidTests := true, laidLooks := .later }
def CatalogPlaysCardSaid : Prop := Claim7.holds Tryz.pinned (.plain (OpenSpec.ofChange catalogPlaysSpec)) catalogPlaysCard

/-- THE TIED CARD OF 'headracelaw08.CatalogSpoilt'. -/
def catalogSpoiltCard : Claim7 := { stood := { row := catalogSpoiltRow, standIns := [], harness := (true, "a18c5ce5612ef8cdeb60ee420bc3621c8b00dfe244b04f7b936a390b1142a418"), looks := true }, kinds := [], alts := [], laidByText := true, laidKinds := [.data, .data, .data, .data], laidTests := true, laidLooks := .later }
def CatalogSpoiltCardSaid : Prop := Claim7.holds Tryz.pinned (.plain (OpenSpec.ofChange catalogSpoiltSpec)) catalogSpoiltCard

/-- THE TIED CARD OF 'headracelaw08.CatalogFalls'. -/
def catalogFallsCard : Claim7 := { stood := { row := catalogFallsRow, standIns := [], harness := (true, "a18c5ce5612ef8cdeb60ee420bc3621c8b00dfe244b04f7b936a390b1142a418"), looks := true }, kinds := [], alts := [], laidByText := true, laidKinds := [.data, .data, .data, .data], laidTests := true, laidLooks := .later }
def CatalogFallsCardSaid : Prop := Claim7.holds Tryz.pinned (.plain (OpenSpec.ofChange catalogFallsSpec)) catalogFallsCard

/-- THE SECOND FORM's CARD OF 'headracelaw08.CatalogScans'. -/
def catalogScansUptoCard : Claim7 := { stood := { row := catalogScansUptoRow, standIns := [], harness := (true, "a18c5ce5612ef8cdeb60ee420bc3621c8b00dfe244b04f7b936a390b1142a418"), looks := true }, kinds := [], alts := [], laidByText := true, laidKinds := [.data, .data, .data, .data], laidTests := true, laidLooks := .later }
def CatalogScansUptoCardSaid : Prop := Claim7.holds Tryz.pinned (.plain (OpenSpec.upto catalogScansSpec)) catalogScansUptoCard

/-- THE SECOND FORM's CARD OF 'headracelaw08.CatalogTwins'. -/
def catalogTwinsUptoCard : Claim7 := { stood := { row := catalogTwinsUptoRow, standIns := [], harness := (true, "a18c5ce5612ef8cdeb60ee420bc3621c8b00dfe244b04f7b936a390b1142a418"), looks := true }, kinds := [], alts := [], laidByText := true, laidKinds := [.data, .data, .data, .data], laidTests := true, laidLooks := .later }
def CatalogTwinsUptoCardSaid : Prop := Claim7.holds Tryz.pinned (.plain (OpenSpec.upto catalogTwinsSpec)) catalogTwinsUptoCard

/-- THE SECOND FORM's CARD OF 'headracelaw08.CatalogPlays'. -/
def catalogPlaysUptoCard : Claim7 := { stood := { row := catalogPlaysUptoRow, standIns := [], harness := (true, "a18c5ce5612ef8cdeb60ee420bc3621c8b00dfe244b04f7b936a390b1142a418"), looks := true }, kinds := [], alts := [], laidByText := true, laidKinds := [.data, .data, .data, .data], laidTests := true, laidLooks := .later }
def CatalogPlaysUptoCardSaid : Prop := Claim7.holds Tryz.pinned (.plain (OpenSpec.upto catalogPlaysSpec)) catalogPlaysUptoCard

/-- THE SECOND FORM's CARD OF 'headracelaw08.CatalogSpoilt'. -/
def catalogSpoiltUptoCard : Claim7 := { stood := { row := catalogSpoiltUptoRow, standIns := [], harness := (true, "a18c5ce5612ef8cdeb60ee420bc3621c8b00dfe244b04f7b936a390b1142a418"), looks := true }, kinds := [], alts := [], laidByText := true, laidKinds := [.data, .data, .data, .data], laidTests := true, laidLooks := .later }
def CatalogSpoiltUptoCardSaid : Prop := Claim7.holds Tryz.pinned (.plain (OpenSpec.upto catalogSpoiltSpec)) catalogSpoiltUptoCard

/-- THE SECOND FORM's CARD OF 'headracelaw08.CatalogFalls'. -/
def catalogFallsUptoCard : Claim7 := { stood := { row := catalogFallsUptoRow, standIns := [], harness := (true, "a18c5ce5612ef8cdeb60ee420bc3621c8b00dfe244b04f7b936a390b1142a418"), looks := true }, kinds := [], alts := [], laidByText := true, laidKinds := [.data, .data, .data, .data], laidTests := true, laidLooks := .later }
def CatalogFallsUptoCardSaid : Prop := Claim7.holds Tryz.pinned (.plain (OpenSpec.upto catalogFallsSpec)) catalogFallsUptoCard
end Rows
end Go.Proofs.YtdkpjpoajlmmfaaGreatDoor
