/- CatalogFalls: whole, or not at all: the power goes off in any operation of any call, and of openings, with whatever bytes kept: the segments are those that were, or those that the call that was cut would have made; its tied card. -/
import Derived.Test.YtdkpjpoajlmmfaaGreatDoorZn
namespace Go.Proofs.YtdkpjpoajlmmfaaGreatDoor
open Go Go.Proofs.YtdkpjpoajlmmfaaGreatDoor.E
theorem catalogFalls_holds:Rows.CatalogFallsCardSaid:=catalogFalls.card P.CatalogFalls
#print axioms catalogFalls_holds
end Go.Proofs.YtdkpjpoajlmmfaaGreatDoor
