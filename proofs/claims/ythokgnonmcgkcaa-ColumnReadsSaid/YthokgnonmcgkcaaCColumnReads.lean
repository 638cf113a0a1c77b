/- The law ColumnReads returns true at every input, and its arguments read as they did: of any bytes the same is read as the document reads, or both refuse. -/
import Derived.Test.YthokgnonmcgkcaaLColumnReads
import Derived.Test.YthokgnonmcgkcaaQp
namespace Go.Proofs.Ythokgnonmcgkcaa
theorem columnReads_holds : Rows.ColumnReadsSaid := columnReads.said P.ColumnReads
#print axioms columnReads_holds
end Go.Proofs.Ythokgnonmcgkcaa
