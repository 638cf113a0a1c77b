/- The program's structs as plain data. -/
import Derived.Test.YtgjhiojkkjaloaaEl
namespace Go.Proofs.Ytgjhiojkkjaloaa.M
open Go Go.RowKit Go.Proofs.Ytgjhiojkkjaloaa.E
set_option linter.unusedVariables false
set_option linter.unusedSimpArgs false

structure S73 where
  f0 : (List UInt8)
  f1 : (List Int)
  f2 : Int
structure S68 where
  f0 : (List S73)
  f1 : Int
  f2 : Int
  f3 : Bool
  f4 : Int
structure S62 where
  f0 : (List UInt8)
  f1 : (List UInt8)
  f2 : (List UInt8)
structure S53 where
  f0 : (List S62)
  f1 : Int
  f2 : Int
  f3 : Bool
  f4 : Int
structure S45 where
  f0 : Int
  f1 : Int
  f2 : Int
  f3 : (List UInt8)
  f4 : (List Int)
  f5 : Int
  f6 : (List Int)
end Go.Proofs.Ytgjhiojkkjaloaa.M
