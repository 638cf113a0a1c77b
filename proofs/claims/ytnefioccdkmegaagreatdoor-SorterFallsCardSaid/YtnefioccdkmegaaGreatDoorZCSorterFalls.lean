/- SorterFalls: the power goes off in any operation: it is told; behind it all is sorted anew, and nothing is left; its tied card. -/
import Derived.Test.YtnefioccdkmegaaGreatDoorZm
namespace Go.Proofs.YtnefioccdkmegaaGreatDoor
open Go Go.Proofs.YtnefioccdkmegaaGreatDoor.E
theorem sorterFalls_holds:Rows.SorterFallsCardSaid:=sorterFalls.card P.SorterFalls
#print axioms sorterFalls_holds
end Go.Proofs.YtnefioccdkmegaaGreatDoor
