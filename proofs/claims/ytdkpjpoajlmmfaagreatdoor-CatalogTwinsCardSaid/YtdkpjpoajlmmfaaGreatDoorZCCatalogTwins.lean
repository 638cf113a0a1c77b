/- CatalogTwins: two stores to which the same happens are the same, file by file, byte by byte; its tied card. -/
import Derived.Test.YtdkpjpoajlmmfaaGreatDoorZn
namespace Go.Proofs.YtdkpjpoajlmmfaaGreatDoor
open Go Go.Proofs.YtdkpjpoajlmmfaaGreatDoor.E
theorem catalogTwins_holds:Rows.CatalogTwinsCardSaid:=catalogTwins.card P.CatalogTwins
#print axioms catalogTwins_holds
end Go.Proofs.YtdkpjpoajlmmfaaGreatDoor
