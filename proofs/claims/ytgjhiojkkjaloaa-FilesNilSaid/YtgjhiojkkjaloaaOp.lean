/- What arguments of struct types hold. -/
import Derived.Test.YtgjhiojkkjaloaaEh
import Derived.Test.YtgjhiojkkjaloaaKd
import Derived.Test.YtgjhiojkkjaloaaGr
namespace Go.Proofs.Ytgjhiojkkjaloaa.M
open Go Go.RowKit Go.Proofs.Ytgjhiojkkjaloaa.E
set_option linter.unusedVariables false
set_option linter.unusedSimpArgs false


end Go.Proofs.Ytgjhiojkkjaloaa.M
