/-
  DERIVED. GIVEN WITH THE SEED: THE CARDS: each row of YteodeedejjcmgaaDoorRows.lean that lists a variable, with what it lists TIED to the program's text (the seventh form; the later family's looks); each row that meets fmt, with fmt's text TOLD by the authors' own Lean function (tested against real Go, not proved from fmt's source: count such statements apart). THE CARD IS WHAT COUNTS. Prove the row's statement (the work); the ties are given (YteodeedejjcmgaaDoorTie.lean); close each card by the builder's one call (the guide's Derived/Test/ToyasCard.lean, 'card_holds'). Laid BY PROGRAM, IN A SANDBOX (cutbox-door.mjs). By AI agents, Wed Nov 11 2026. No macro, syntax, notation, axiom, sorry.
-/
import Derived.Test.YteodeedejjcmgaaDoorRows
import GoSem.ClaimSeven
namespace Go.Proofs.YteodeedejjcmgaaDoor
namespace Rows

/-- THE TIED CARD OF 'headracelaw07.SegmentWrites'. -/
def segmentWritesCard : Claim7 := { stood := { row := segmentWritesRow, standIns := [], harness := (true, "3c36d6fb2df997a155ddb8d480c139c5542e303275d5a468f387cd5ae2d8caa9"), looks := true }, kinds := [], alts := [], laidByText := true, laidKinds := [.data], laidTests := true, laidLooks := .later }
def SegmentWritesCardSaid : Prop := Claim7.holds Tryd.pinned (.plain (OpenSpec.ofChange segmentWritesSpec)) segmentWritesCard

/-- THE TIED CARD OF 'headracelaw07.SegmentChunks'. -/
def segmentChunksCard : Claim7 := { stood := { row := segmentChunksRow, standIns := [], harness := (true, "3c36d6fb2df997a155ddb8d480c139c5542e303275d5a468f387cd5ae2d8caa9"), looks := true }, kinds := [], alts := [], laidByText := true, laidKinds := [.data], laidTests := true, laidLooks := .later }
def SegmentChunksCardSaid : Prop := Claim7.holds Tryd.pinned (.plain (OpenSpec.ofChange segmentChunksSpec)) segmentChunksCard

/-- THE TIED CARD OF 'headracelaw07.SegmentTurned'. -/
def segmentTurnedCard : Claim7 := { stood := { row := segmentTurnedRow, standIns := [], harness := (true, "3c36d6fb2df997a155ddb8d480c139c5542e303275d5a468f387cd5ae2d8caa9"), looks := true }, kinds := [], alts := [], laidByText := true, laidKinds := [.data], laidTests := true, laidLooks := .later }
def SegmentTurnedCardSaid : Prop := Claim7.holds Tryd.pinned (.plain (OpenSpec.ofChange segmentTurnedSpec)) segmentTurnedCard

/-- THE TIED CARD OF 'headracelaw07.SegmentPrunes'. -/
def segmentPrunesCard : Claim7 := { stood := { row := segmentPrunesRow, standIns := [], harness := (true, "3c36d6fb2df997a155ddb8d480c139c5542e303275d5a468f387cd5ae2d8caa9"), looks := true }, kinds := [], alts := [], laidByText := true, laidKinds := [.data], laidTests := true, laidLooks := .later }
def SegmentPrunesCardSaid : Prop := Claim7.holds Tryd.pinned (.plain (OpenSpec.ofChange segmentPrunesSpec)) segmentPrunesCard

/-- THE TIED CARD OF 'headracelaw07.SegmentParted'. -/
def segmentPartedCard : Claim7 := { stood := { row := segmentPartedRow, standIns := [], harness := (true, "3c36d6fb2df997a155ddb8d480c139c5542e303275d5a468f387cd5ae2d8caa9"), looks := true }, kinds := [], alts := [], laidByText := true, laidKinds := [.data], laidTests := true, laidLooks := .later }
def SegmentPartedCardSaid : Prop := Claim7.holds Tryd.pinned (.plain (OpenSpec.ofChange segmentPartedSpec)) segmentPartedCard

/-- THE TIED CARD OF 'headracelaw07.SegmentScans'. -/
def segmentScansCard : Claim7 := { stood := { row := segmentScansRow, standIns := [], harness := (true, "3c36d6fb2df997a155ddb8d480c139c5542e303275d5a468f387cd5ae2d8caa9"), looks := true }, kinds := [], alts := [], laidByText := true, laidKinds := [.data], laidTests := true, laidLooks := .later }
def SegmentScansCardSaid : Prop := Claim7.holds Tryd.pinned (.plain (OpenSpec.ofChange segmentScansSpec)) segmentScansCard

/-- THE TIED CARD OF 'headracelaw07.SegmentNil'. -/
def segmentNilCard : Claim7 := { stood := { row := segmentNilRow, standIns := [], harness := (true, "3c36d6fb2df997a155ddb8d480c139c5542e303275d5a468f387cd5ae2d8caa9"), looks := true }, kinds := [], alts := [], laidByText := true, laidKinds := [.data], laidTests := true, laidLooks := .later }
def SegmentNilCardSaid : Prop := Claim7.holds Tryd.pinned (.plain (OpenSpec.ofChange segmentNilSpec)) segmentNilCard

/-- THE SECOND FORM's CARD OF 'headracelaw07.SegmentWrites'. -/
def segmentWritesUptoCard : Claim7 := { stood := { row := segmentWritesUptoRow, standIns := [], harness := (true, "3c36d6fb2df997a155ddb8d480c139c5542e303275d5a468f387cd5ae2d8caa9"), looks := true }, kinds := [], alts := [], laidByText := true, laidKinds := [.data], laidTests := true, laidLooks := .later }
def SegmentWritesUptoCardSaid : Prop := Claim7.holds Tryd.pinned (.plain (OpenSpec.upto segmentWritesSpec)) segmentWritesUptoCard

/-- THE SECOND FORM's CARD OF 'headracelaw07.SegmentChunks'. -/
def segmentChunksUptoCard : Claim7 := { stood := { row := segmentChunksUptoRow, standIns := [], harness := (true, "3c36d6fb2df997a155ddb8d480c139c5542e303275d5a468f387cd5ae2d8caa9"), looks := true }, kinds := [], alts := [], laidByText := true, laidKinds := [.data], laidTests := true, laidLooks := .later }
def SegmentChunksUptoCardSaid : Prop := Claim7.holds Tryd.pinned (.plain (OpenSpec.upto segmentChunksSpec)) segmentChunksUptoCard

/-- THE SECOND FORM's CARD OF 'headracelaw07.SegmentTurned'. -/
def segmentTurnedUptoCard : Claim7 := { stood := { row := segmentTurnedUptoRow, standIns := [], harness := (true, "3c36d6fb2df997a155ddb8d480c139c5542e303275d5a468f387cd5ae2d8caa9"), looks := true }, kinds := [], alts := [], laidByText := true, laidKinds := [.data], laidTests := true, laidLooks := .later }
def SegmentTurnedUptoCardSaid : Prop := Claim7.holds Tryd.pinned (.plain (OpenSpec.upto segmentTurnedSpec)) segmentTurnedUptoCard

/-- THE SECOND FORM's CARD OF 'headracelaw07.SegmentPrunes'. -/
def segmentPrunesUptoCard : Claim7 := { stood := { row := segmentPrunesUptoRow, standIns := [], harness := (true, "3c36d6fb2df997a155ddb8d480c139c5542e303275d5a468f387cd5ae2d8caa9"), looks := true }, kinds := [], alts := [], laidByText := true, laidKinds := [.data], laidTests := true, laidLooks := .later }
def SegmentPrunesUptoCardSaid : Prop := Claim7.holds Tryd.pinned (.plain (OpenSpec.upto segmentPrunesSpec)) segmentPrunesUptoCard

/-- THE SECOND FORM's CARD OF 'headracelaw07.SegmentParted'. -/
def segmentPartedUptoCard : Claim7 := { stood := { row := segmentPartedUptoRow, standIns := [], harness := (true, "3c36d6fb2df997a155ddb8d480c139c5542e303275d5a468f387cd5ae2d8caa9"), looks := true }, kinds := [], alts := [], laidByText := true, laidKinds := [.data], laidTests := true, laidLooks := .later }
def SegmentPartedUptoCardSaid : Prop := Claim7.holds Tryd.pinned (.plain (OpenSpec.upto segmentPartedSpec)) segmentPartedUptoCard

/-- THE SECOND FORM's CARD OF 'headracelaw07.SegmentScans'. -/
def segmentScansUptoCard : Claim7 := { stood := { row := segmentScansUptoRow, standIns := [], harness := (true, "3c36d6fb2df997a155ddb8d480c139c5542e303275d5a468f387cd5ae2d8caa9"), looks := true }, kinds := [], alts := [], laidByText := true, laidKinds := [.data], laidTests := true, laidLooks := .later }
def SegmentScansUptoCardSaid : Prop := Claim7.holds Tryd.pinned (.plain (OpenSpec.upto segmentScansSpec)) segmentScansUptoCard

/-- THE SECOND FORM's CARD OF 'headracelaw07.SegmentNil'. -/
def segmentNilUptoCard : Claim7 := { stood := { row := segmentNilUptoRow, standIns := [], harness := (true, "3c36d6fb2df997a155ddb8d480c139c5542e303275d5a468f387cd5ae2d8caa9"), looks := true }, kinds := [], alts := [], laidByText := true, laidKinds := [.data], laidTests := true, laidLooks := .later }
def SegmentNilUptoCardSaid : Prop := Claim7.holds Tryd.pinned (.plain (OpenSpec.upto segmentNilSpec)) segmentNilUptoCard
end Rows
end Go.Proofs.YteodeedejjcmgaaDoor
