/- Plain functions: what the Go functions of this part come to. -/
import Derived.Test.YtgjhiojkkjaloaaDf
namespace Go.Proofs.Ytgjhiojkkjaloaa.M
open Go Go.RowKit Go.Proofs.Ytgjhiojkkjaloaa.E
set_option linter.unusedVariables false
set_option linter.unusedSimpArgs false

/-! (headrace/headracelaw05.Act).names -/
noncomputable def law05_Act_names (a0 : S45) : Option ((List UInt8) × (List UInt8)) :=
  ltt (IntKind.i64.wrap a0.f1) fun x106 => ((at_ [[97], [98], [99, 46, 49], [115, 101, 103, 46, 48, 46, 53], [109, 97, 110, 46, 116, 109, 112], [122, 122], [48], a0.f3, []] (x106.tmod 9)).bind fun x108 => (ltt (IntKind.i64.wrap a0.f2) fun x111 => ((at_ [[97], [98], [99, 46, 49], [115, 101, 103, 46, 48, 46, 53], [109, 97, 110, 46, 116, 109, 112], [122, 122], [48], a0.f3, []] (x111.tmod 9)).bind fun x113 => (some (x108, x113)))))
end Go.Proofs.Ytgjhiojkkjaloaa.M
