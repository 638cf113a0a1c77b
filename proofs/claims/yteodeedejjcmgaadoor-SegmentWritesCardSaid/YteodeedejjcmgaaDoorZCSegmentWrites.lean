/- SegmentWrites: any events as a segment's bytes, or the first fault; its tied card. -/
import Derived.Test.YteodeedejjcmgaaDoorZi
namespace Go.Proofs.YteodeedejjcmgaaDoor
open Go Go.Proofs.YteodeedejjcmgaaDoor.E
theorem segmentWrites_holds : Rows.SegmentWritesCardSaid := segmentWrites.card P.SegmentWrites
#print axioms segmentWrites_holds
end Go.Proofs.YteodeedejjcmgaaDoor
