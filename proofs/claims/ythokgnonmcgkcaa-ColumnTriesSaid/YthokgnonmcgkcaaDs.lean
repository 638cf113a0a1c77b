/- The program's structs as plain data. -/
import Derived.Test.YthokgnonmcgkcaaEi
namespace Go.Proofs.Ythokgnonmcgkcaa.M
open Go Go.RowKit Go.Proofs.Ythokgnonmcgkcaa.E
set_option linter.unusedVariables false
set_option linter.unusedSimpArgs false

structure S26 where
  f0 : (List Int)
  f1 : Int
structure S72 where
  f0 : (List Int)
end Go.Proofs.Ythokgnonmcgkcaa.M
