/- The law MergeParted returns true at every input, and its arguments read as they did: however a run is parted into runs, in order, what comes of it is the run. No condition. -/
import Derived.Test.YtpanacifejpjhaaLMergeParted
import Derived.Test.YtpanacifejpjhaaPo
namespace Go.Proofs.Ytpanacifejpjhaa
theorem mergeParted_holds : Rows.MergePartedSaid := mergeParted.said P.MergeParted
#print axioms mergeParted_holds
end Go.Proofs.Ytpanacifejpjhaa
