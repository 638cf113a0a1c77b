/- The law ColumnReals returns true at every input, and its arguments read as they did: numbers are laid and read by their bits. -/
import Derived.Test.YthokgnonmcgkcaaLColumnReals
import Derived.Test.YthokgnonmcgkcaaQk
namespace Go.Proofs.Ythokgnonmcgkcaa
theorem columnReals_holds : Rows.ColumnRealsSaid := columnReals.said P.ColumnReals
#print axioms columnReals_holds
end Go.Proofs.Ythokgnonmcgkcaa
