/- CommitPlays: any commits, without falls: each answer, and what is committed; as many files as must be; its tied card. -/
import Derived.Test.YtffdckhgkhhbjaaGreatDoorZg
namespace Go.Proofs.YtffdckhgkhhbjaaGreatDoor
open Go Go.Proofs.YtffdckhgkhhbjaaGreatDoor.E
theorem commitPlays_holds : Rows.CommitPlaysCardSaid := commitPlays.card P.CommitPlays
#print axioms commitPlays_holds
end Go.Proofs.YtffdckhgkhhbjaaGreatDoor
