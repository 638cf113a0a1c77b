/- The law MergeOrder returns true at every input, and its argument reads as it did: a tree of losers refuses runs just where one of them isn't in its order. No condition. -/
import Derived.Test.YtpanacifejpjhaaLMergeOrder
import Derived.Test.YtpanacifejpjhaaPe
namespace Go.Proofs.Ytpanacifejpjhaa
theorem mergeOrder_holds : Rows.MergeOrderSaid := mergeOrder.said P.MergeOrder
#print axioms mergeOrder_holds
end Go.Proofs.Ytpanacifejpjhaa
