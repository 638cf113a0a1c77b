/- Plain functions: what the Go functions of this part come to. -/
import Derived.Test.YtgjhiojkkjaloaaDc
namespace Go.Proofs.Ytgjhiojkkjaloaa.M
open Go Go.RowKit Go.Proofs.Ytgjhiojkkjaloaa.E
set_option linter.unusedVariables false
set_option linter.unusedSimpArgs false

/-! headrace/headracelaw05.awake -/
noncomputable def law05_awake_j1 (o124 : (Option S68)) (b125 : Bool) : Option (Bool) :=
  if b125 = true then (some false) else ((files_Store_Read o124 [97]).bind fun y129 => (if (y129.2 == 0) = true then (if ((bts y129.1) == [120, 121, 122]) = true then (some true) else (some false)) else (some false)))
noncomputable def law05_awake : Option (Bool) :=
  (files_New 100).bind fun y103 => (if (y103.2 != 0) = true then (law05_awake_j1 y103.1 true) else (if y103.1.isNone = true then (law05_awake_j1 y103.1 true) else ((files_Store_Append y103.1 [97] [120, 121]).bind fun y140 => (if (y140.1 != 0) = true then (law05_awake_j1 y140.2 true) else ((files_Store_Sync y140.2 [97]).bind fun y143 => (if (y143.1 != 0) = true then (law05_awake_j1 y143.2 true) else ((files_Store_Append y143.2 [97] [122, 119]).bind fun y147 => (if (y147.1 != 0) = true then (law05_awake_j1 y147.2 true) else ((files_Store_Restart y147.2 [1]).bind fun y151 => (law05_awake_j1 y151.2 (y151.1 != 0)))))))))))
end Go.Proofs.Ytgjhiojkkjaloaa.M
