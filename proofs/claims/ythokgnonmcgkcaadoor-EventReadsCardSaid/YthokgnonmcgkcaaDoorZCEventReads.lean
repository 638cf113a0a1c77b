/- EventReads: proved; its tied card. -/
import Derived.Test.YthokgnonmcgkcaaDoorZj
namespace Go.Proofs.YthokgnonmcgkcaaDoor
open Go Go.Proofs.YthokgnonmcgkcaaDoor.E
theorem eventReads_holds : Rows.EventReadsCardSaid := eventReads.card (fun a0 a1 a2 h0 h1 h2 => P.EventReads a0 a1 a2 h0 h1 h2)
#print axioms eventReads_holds
end Go.Proofs.YthokgnonmcgkcaaDoor
