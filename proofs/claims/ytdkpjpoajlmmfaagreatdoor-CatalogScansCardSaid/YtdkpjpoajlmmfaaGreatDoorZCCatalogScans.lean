/- CatalogScans: of any segments, compacted or not, all events that are wanted; no more chunks are read than have to be; its tied card. -/
import Derived.Test.YtdkpjpoajlmmfaaGreatDoorZn
namespace Go.Proofs.YtdkpjpoajlmmfaaGreatDoor
open Go Go.Proofs.YtdkpjpoajlmmfaaGreatDoor.E
theorem catalogScans_holds:Rows.CatalogScansCardSaid:=catalogScans.card P.CatalogScans
#print axioms catalogScans_holds
end Go.Proofs.YtdkpjpoajlmmfaaGreatDoor
