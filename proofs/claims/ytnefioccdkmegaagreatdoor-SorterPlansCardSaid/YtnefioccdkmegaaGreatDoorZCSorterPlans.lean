/- SorterPlans: by whichever two plans events are sorted, they come to the same; its tied card. -/
import Derived.Test.YtnefioccdkmegaaGreatDoorZm
namespace Go.Proofs.YtnefioccdkmegaaGreatDoor
open Go Go.Proofs.YtnefioccdkmegaaGreatDoor.E
theorem sorterPlans_holds:Rows.SorterPlansCardSaid:=sorterPlans.card P.SorterPlans
#print axioms sorterPlans_holds
end Go.Proofs.YtnefioccdkmegaaGreatDoor
