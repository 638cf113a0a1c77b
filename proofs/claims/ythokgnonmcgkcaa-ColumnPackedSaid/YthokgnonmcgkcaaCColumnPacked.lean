/- The law ColumnPacked returns true at every input, and its arguments read as they did: small numbers, wherever they lie, are laid in few bits and read back. No condition. -/
import Derived.Test.YthokgnonmcgkcaaLColumnPacked
import Derived.Test.YthokgnonmcgkcaaQj
namespace Go.Proofs.Ythokgnonmcgkcaa
theorem columnPacked_holds : Rows.ColumnPackedSaid := columnPacked.said P.ColumnPacked
#print axioms columnPacked_holds
end Go.Proofs.Ythokgnonmcgkcaa
