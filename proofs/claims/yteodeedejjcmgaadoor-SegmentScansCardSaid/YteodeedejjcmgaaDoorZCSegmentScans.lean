/- SegmentScans: any stretch of a log, written, and read: all events that are wanted, and how many chunks were read for it; its tied card. -/
import Derived.Test.YteodeedejjcmgaaDoorZj
namespace Go.Proofs.YteodeedejjcmgaaDoor
open Go Go.Proofs.YteodeedejjcmgaaDoor.E
theorem segmentScans_holds : Rows.SegmentScansCardSaid := segmentScans.card P.SegmentScans
#print axioms segmentScans_holds
end Go.Proofs.YteodeedejjcmgaaDoor
