/- SorterRuns: events that come in their order, and in the opposite one, are sorted; the more are held the fewer runs there are; its tied card. -/
import Derived.Test.YtnefioccdkmegaaGreatDoorZm
namespace Go.Proofs.YtnefioccdkmegaaGreatDoor
open Go Go.Proofs.YtnefioccdkmegaaGreatDoor.E
theorem sorterRuns_holds:Rows.SorterRunsCardSaid:=sorterRuns.card P.SorterRuns
#print axioms sorterRuns_holds
end Go.Proofs.YtnefioccdkmegaaGreatDoor
