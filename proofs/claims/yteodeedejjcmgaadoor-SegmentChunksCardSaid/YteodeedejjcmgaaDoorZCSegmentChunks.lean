/- SegmentChunks: what is told of a segment's chunks is so; and which of them may have an event that is wanted; its tied card. -/
import Derived.Test.YteodeedejjcmgaaDoorZh
namespace Go.Proofs.YteodeedejjcmgaaDoor
open Go Go.Proofs.YteodeedejjcmgaaDoor.E
theorem segmentChunks_holds : Rows.SegmentChunksCardSaid := segmentChunks.card P.SegmentChunks
#print axioms segmentChunks_holds
end Go.Proofs.YteodeedejjcmgaaDoor
