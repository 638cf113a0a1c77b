/- The law FilesSure returns true at every input, and its arguments read as they did: what was synced stays, whatever the power does, and of what comes behind it the first bytes are kept. No condition. -/
import Derived.Test.YtgjhiojkkjaloaaLFilesSure
import Derived.Test.YtgjhiojkkjaloaaRg
namespace Go.Proofs.Ytgjhiojkkjaloaa
theorem filesSure_holds : Rows.FilesSureSaid := filesSure.said P.FilesSure
#print axioms filesSure_holds
end Go.Proofs.Ytgjhiojkkjaloaa
