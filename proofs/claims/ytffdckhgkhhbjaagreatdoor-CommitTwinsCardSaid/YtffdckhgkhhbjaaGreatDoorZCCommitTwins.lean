/- CommitTwins: two stores to which the same commits are put are the same; its tied card. -/
import Derived.Test.YtffdckhgkhhbjaaGreatDoorZg
namespace Go.Proofs.YtffdckhgkhhbjaaGreatDoor
open Go Go.Proofs.YtffdckhgkhhbjaaGreatDoor.E
theorem commitTwins_holds : Rows.CommitTwinsCardSaid := commitTwins.card P.CommitTwins
#print axioms commitTwins_holds
end Go.Proofs.YtffdckhgkhhbjaaGreatDoor
