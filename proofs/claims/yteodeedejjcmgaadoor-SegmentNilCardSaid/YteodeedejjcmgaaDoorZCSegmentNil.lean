/- SegmentNil: a nil segment has nothing; its tied card. -/
import Derived.Test.YteodeedejjcmgaaDoorZj
namespace Go.Proofs.YteodeedejjcmgaaDoor
open Go Go.Proofs.YteodeedejjcmgaaDoor.E
theorem segmentNil_holds : Rows.SegmentNilCardSaid := segmentNil.card P.SegmentNil
#print axioms segmentNil_holds
end Go.Proofs.YteodeedejjcmgaaDoor
