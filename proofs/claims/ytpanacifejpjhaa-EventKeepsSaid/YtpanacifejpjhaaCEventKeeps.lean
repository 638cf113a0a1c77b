/- The law EventKeeps returns true at every input, and its arguments read as they did: sorting events changes nothing in what is handed in. No condition. -/
import Derived.Test.YtpanacifejpjhaaLEventKeeps
import Derived.Test.YtpanacifejpjhaaPn
namespace Go.Proofs.Ytpanacifejpjhaa
theorem eventKeeps_holds : Rows.EventKeepsSaid := eventKeeps.said P.EventKeeps
#print axioms eventKeeps_holds
end Go.Proofs.Ytpanacifejpjhaa
