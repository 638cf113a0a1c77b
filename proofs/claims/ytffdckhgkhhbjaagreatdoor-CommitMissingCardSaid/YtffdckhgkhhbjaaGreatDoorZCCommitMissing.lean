/- CommitMissing: where a file isn't there, what was committed is told to be none; its tied card. -/
import Derived.Test.YtffdckhgkhhbjaaGreatDoorZg
namespace Go.Proofs.YtffdckhgkhhbjaaGreatDoor
open Go Go.Proofs.YtffdckhgkhhbjaaGreatDoor.E
theorem commitMissing_holds : Rows.CommitMissingCardSaid := commitMissing.card P.CommitMissing
#print axioms commitMissing_holds
end Go.Proofs.YtffdckhgkhhbjaaGreatDoor
