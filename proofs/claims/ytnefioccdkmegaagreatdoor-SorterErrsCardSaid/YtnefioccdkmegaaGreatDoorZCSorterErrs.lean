/- SorterErrs: plans that are none, events without the form, no store: each is told; files of runs go; its tied card. -/
import Derived.Test.YtnefioccdkmegaaGreatDoorZl
namespace Go.Proofs.YtnefioccdkmegaaGreatDoor
open Go Go.Proofs.YtnefioccdkmegaaGreatDoor.E
theorem sorterErrs_holds:Rows.SorterErrsCardSaid:=sorterErrs.card P.SorterErrs
#print axioms sorterErrs_holds
end Go.Proofs.YtnefioccdkmegaaGreatDoor
