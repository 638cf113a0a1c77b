/- CommitFalls: all of it, or nothing, wherever the power goes off; its tied card. -/
import Derived.Test.YtffdckhgkhhbjaaGreatDoorZh
namespace Go.Proofs.YtffdckhgkhhbjaaGreatDoor
open Go Go.Proofs.YtffdckhgkhhbjaaGreatDoor.E
theorem commitFalls_holds : Rows.CommitFallsCardSaid := commitFalls.card P.CommitFalls
#print axioms commitFalls_holds
end Go.Proofs.YtffdckhgkhhbjaaGreatDoor
