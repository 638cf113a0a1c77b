/- SorterSorts: any events, by any plan, are sorted: in their order, those that are alike as they came; how many runs, and passes; no file is left; its tied card. -/
import Derived.Test.YtnefioccdkmegaaGreatDoorZm
namespace Go.Proofs.YtnefioccdkmegaaGreatDoor
open Go Go.Proofs.YtnefioccdkmegaaGreatDoor.E
theorem sorterSorts_holds:Rows.SorterSortsCardSaid:=sorterSorts.card P.SorterSorts
#print axioms sorterSorts_holds
end Go.Proofs.YtnefioccdkmegaaGreatDoor
