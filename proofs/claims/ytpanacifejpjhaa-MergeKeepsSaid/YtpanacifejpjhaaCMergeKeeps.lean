/- The law MergeKeeps returns true at every input, and its argument reads as it did: to merge changes nothing in the runs that are handed in, and a nil tree has nothing. No condition. -/
import Derived.Test.YtpanacifejpjhaaLMergeKeeps
import Derived.Test.YtpanacifejpjhaaPf
namespace Go.Proofs.Ytpanacifejpjhaa
theorem mergeKeeps_holds : Rows.MergeKeepsSaid := mergeKeeps.said P.MergeKeeps
#print axioms mergeKeeps_holds
end Go.Proofs.Ytpanacifejpjhaa
