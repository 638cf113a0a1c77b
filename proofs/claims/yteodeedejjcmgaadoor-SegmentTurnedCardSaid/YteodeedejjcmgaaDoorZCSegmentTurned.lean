/- SegmentTurned: a segment in which bits were turned that stand within 32 tells no events, but a fault; its tied card. -/
import Derived.Test.YteodeedejjcmgaaDoorZj
namespace Go.Proofs.YteodeedejjcmgaaDoor
open Go Go.Proofs.YteodeedejjcmgaaDoor.E
theorem segmentTurned_holds : Rows.SegmentTurnedCardSaid := segmentTurned.card P.SegmentTurned
#print axioms segmentTurned_holds
end Go.Proofs.YteodeedejjcmgaaDoor
