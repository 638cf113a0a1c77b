/- SegmentPrunes: where nothing can be wanted no chunk is read; where all is, all are; its tied card. -/
import Derived.Test.YteodeedejjcmgaaDoorZi
namespace Go.Proofs.YteodeedejjcmgaaDoor
open Go Go.Proofs.YteodeedejjcmgaaDoor.E
theorem segmentPrunes_holds : Rows.SegmentPrunesCardSaid := segmentPrunes.card P.SegmentPrunes
#print axioms segmentPrunes_holds
end Go.Proofs.YteodeedejjcmgaaDoor
