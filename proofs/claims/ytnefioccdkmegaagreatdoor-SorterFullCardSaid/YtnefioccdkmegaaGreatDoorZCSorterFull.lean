/- SorterFull: where there is no room it is told, and nothing is left; where there is, all is sorted; its tied card. -/
import Derived.Test.YtnefioccdkmegaaGreatDoorZm
namespace Go.Proofs.YtnefioccdkmegaaGreatDoor
open Go Go.Proofs.YtnefioccdkmegaaGreatDoor.E
theorem sorterFull_holds:Rows.SorterFullCardSaid:=sorterFull.card P.SorterFull
#print axioms sorterFull_holds
end Go.Proofs.YtnefioccdkmegaaGreatDoor
