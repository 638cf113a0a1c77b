/- CatalogSpoilt: a catalog, or a segment, of which one bit was turned is told to be none; nothing that is wrong is told; its tied card. -/
import Derived.Test.YtdkpjpoajlmmfaaGreatDoorZn
namespace Go.Proofs.YtdkpjpoajlmmfaaGreatDoor
open Go Go.Proofs.YtdkpjpoajlmmfaaGreatDoor.E
theorem catalogSpoilt_holds:Rows.CatalogSpoiltCardSaid:=catalogSpoilt.card P.CatalogSpoilt
#print axioms catalogSpoilt_holds
end Go.Proofs.YtdkpjpoajlmmfaaGreatDoor
