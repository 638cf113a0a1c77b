/- The law EventSorts returns true at every input, and its arguments read as they did: the program sorts any events into their order, those that stand alike as they came, as the document does. No condition. -/
import Derived.Test.YtpanacifejpjhaaLEventSorts
import Derived.Test.YtpanacifejpjhaaPn
namespace Go.Proofs.Ytpanacifejpjhaa
theorem eventSorts_holds : Rows.EventSortsSaid := eventSorts.said P.EventSorts
#print axioms eventSorts_holds
end Go.Proofs.Ytpanacifejpjhaa
