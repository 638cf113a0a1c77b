/- SegmentParted: two filters that part what a third one wants have its events, one behind the other; its tied card. -/
import Derived.Test.YteodeedejjcmgaaDoorZi
namespace Go.Proofs.YteodeedejjcmgaaDoor
open Go Go.Proofs.YteodeedejjcmgaaDoor.E
theorem segmentParted_holds : Rows.SegmentPartedCardSaid := segmentParted.card P.SegmentParted
#print axioms segmentParted_holds
end Go.Proofs.YteodeedejjcmgaaDoor
