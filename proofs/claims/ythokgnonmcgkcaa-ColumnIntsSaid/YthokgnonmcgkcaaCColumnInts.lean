/- The law ColumnInts returns true at every input, and its arguments read as they did: the program lays any whole numbers in each way, and in the shortest, as the document does, and reads them back. No condition. -/
import Derived.Test.YthokgnonmcgkcaaLColumnInts
import Derived.Test.YthokgnonmcgkcaaQj
namespace Go.Proofs.Ythokgnonmcgkcaa
theorem columnInts_holds : Rows.ColumnIntsSaid := columnInts.said P.ColumnInts
#print axioms columnInts_holds
end Go.Proofs.Ythokgnonmcgkcaa
