/- EventBack: any events with the form as a page, behind any bytes, and back; its tied card. -/
import Derived.Test.YthokgnonmcgkcaaGreatDoorZk
namespace Go.Proofs.YthokgnonmcgkcaaGreatDoor
open Go Go.Proofs.YthokgnonmcgkcaaGreatDoor.E
theorem eventBack_holds : Rows.EventBackCardSaid := eventBack.card P.EventBack
#print axioms eventBack_holds
end Go.Proofs.YthokgnonmcgkcaaGreatDoor
