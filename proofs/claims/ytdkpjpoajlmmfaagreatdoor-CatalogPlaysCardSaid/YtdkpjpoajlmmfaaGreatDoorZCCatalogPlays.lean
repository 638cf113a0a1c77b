/- CatalogPlays: any calls, without falls: each answer, the segments, and all events; its tied card. -/
import Derived.Test.YtdkpjpoajlmmfaaGreatDoorZn
namespace Go.Proofs.YtdkpjpoajlmmfaaGreatDoor
open Go Go.Proofs.YtdkpjpoajlmmfaaGreatDoor.E
theorem catalogPlays_holds:Rows.CatalogPlaysCardSaid:=catalogPlays.card P.CatalogPlays
#print axioms catalogPlays_holds
end Go.Proofs.YtdkpjpoajlmmfaaGreatDoor
