/- The law ColumnFar returns true at every input, and its arguments read as they did: numbers that lie as far apart as can be are laid in every way and read back. No condition. -/
import Derived.Test.YthokgnonmcgkcaaLColumnFar
import Derived.Test.YthokgnonmcgkcaaQj
namespace Go.Proofs.Ythokgnonmcgkcaa
theorem columnFar_holds : Rows.ColumnFarSaid := columnFar.said P.ColumnFar
#print axioms columnFar_holds
end Go.Proofs.Ythokgnonmcgkcaa
