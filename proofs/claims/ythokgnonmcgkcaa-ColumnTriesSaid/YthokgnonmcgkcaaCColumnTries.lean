/- The law ColumnTries returns true at every input, and its arguments read as they did: a reading of any bytes gives up just where the document says. -/
import Derived.Test.YthokgnonmcgkcaaLColumnTries
import Derived.Test.YthokgnonmcgkcaaQq
namespace Go.Proofs.Ythokgnonmcgkcaa
theorem columnTries_holds : Rows.ColumnTriesSaid := columnTries.said P.ColumnTries
#print axioms columnTries_holds
end Go.Proofs.Ythokgnonmcgkcaa
