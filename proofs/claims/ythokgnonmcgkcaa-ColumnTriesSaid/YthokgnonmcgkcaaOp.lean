/- What arguments of struct types hold. -/
import Derived.Test.YthokgnonmcgkcaaEh
import Derived.Test.YthokgnonmcgkcaaKd
import Derived.Test.YthokgnonmcgkcaaGr
namespace Go.Proofs.Ythokgnonmcgkcaa.M
open Go Go.RowKit Go.Proofs.Ythokgnonmcgkcaa.E
set_option linter.unusedVariables false
set_option linter.unusedSimpArgs false


end Go.Proofs.Ythokgnonmcgkcaa.M
