/- The law MergeRuns returns true at every input, and its argument reads as it did: of any runs, each in its order, a tree of losers tells all events in one order, and which run each is of. No condition. -/
import Derived.Test.YtpanacifejpjhaaLMergeRuns
import Derived.Test.YtpanacifejpjhaaPg
namespace Go.Proofs.Ytpanacifejpjhaa
theorem mergeRuns_holds : Rows.MergeRunsSaid := mergeRuns.said P.MergeRuns
#print axioms mergeRuns_holds
end Go.Proofs.Ytpanacifejpjhaa
