/- The program's structs as plain data. -/
import Derived.Test.YtpanacifejpjhaaEg
namespace Go.Proofs.Ytpanacifejpjhaa.M
open Go Go.RowKit Go.Proofs.Ytpanacifejpjhaa.E
set_option linter.unusedVariables false
set_option linter.unusedSimpArgs false

structure S30 where
  f0 : Int
  f1 : Int
  f2 : Int
  f3 : (List UInt8)
  f4 : Nat
structure S48 where
  f0 : (List (List S30))
  f1 : (List Int)
end Go.Proofs.Ytpanacifejpjhaa.M
