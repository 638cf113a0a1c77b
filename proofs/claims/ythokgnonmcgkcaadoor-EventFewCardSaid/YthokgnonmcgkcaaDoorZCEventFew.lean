/- EventFew: events of a log of more partitions than one reads are none; its tied card. -/
import Derived.Test.YthokgnonmcgkcaaDoorZj
namespace Go.Proofs.YthokgnonmcgkcaaDoor
open Go Go.Proofs.YthokgnonmcgkcaaDoor.E
theorem eventFew_holds : Rows.EventFewCardSaid := eventFew.card P.EventFew
#print axioms eventFew_holds
end Go.Proofs.YthokgnonmcgkcaaDoor
