/- Plain functions: what the Go functions of this part come to. -/
import Derived.Test.YtgjhiojkkjaloaaDd
namespace Go.Proofs.Ytgjhiojkkjaloaa.M
open Go Go.RowKit Go.Proofs.Ytgjhiojkkjaloaa.E
set_option linter.unusedVariables false
set_option linter.unusedSimpArgs false

/-! (*headrace/files.Store).change@nil -/
noncomputable def files_change_nil (a1 : (List UInt8)) : Option (Int) :=
  (files_Store_look none a1).bind fun y104 => (if (y104 != 0) = true then (some y104) else (none))

/-! (*headrace/files.Store).change@Sync -/
noncomputable def files_change_Sync (a1 : (List UInt8)) (a70 : S68) : Option (Int × S68) :=
  (files_Store_look (some a70) a1).bind fun y107 => (if (y107 != 0) = true then (some (y107, a70)) else ((files_Store_find a70 a1).bind fun y118 => (if (!y118.2) = true then (some (5, a70)) else ((files_Store_begin a70).bind fun y126 => (if (!y126.1) = true then (some (9, y126.2)) else ((files_Store_Sync_1 y118.1 y126.2).bind fun y134 => (some (0, y134))))))))

/-! (*headrace/files.Store).change@Delete -/
noncomputable def files_change_Delete (a1 : (List UInt8)) (a70 : S68) : Option (Int × S68) :=
  (files_Store_look (some a70) a1).bind fun y107 => (if (y107 != 0) = true then (some (y107, a70)) else ((files_Store_find a70 a1).bind fun y118 => (if (!y118.2) = true then (some (5, a70)) else ((files_Store_begin a70).bind fun y126 => (if (!y126.1) = true then (some (9, y126.2)) else ((files_Store_Delete_1 y118.1 y126.2).bind fun y134 => (some (0, y134))))))))

/-! (*headrace/files.Store).change@Rename -/
noncomputable def files_change_Rename (a1 : (List UInt8)) (a70 : S68) (a71 : (List UInt8)) : Option (Int × S68 × (List UInt8)) :=
  (files_Store_look (some a70) a1).bind fun y107 => (if (y107 != 0) = true then (some (y107, a70, a71)) else ((files_Store_find a70 a1).bind fun y118 => (if (!y118.2) = true then (some (5, a70, a71)) else ((files_Store_begin a70).bind fun y126 => (if (!y126.1) = true then (some (9, y126.2, a71)) else ((files_Store_Rename_1 y118.1 y126.2 a71).bind fun y134 => (some (0, y134.1, y134.2))))))))

/-! (*headrace/files.Store).Sync -/
noncomputable def files_Store_Sync (a0 : (Option S68)) (a1 : (List UInt8)) : Option (Int × (Option S68)) :=
  match a0 with | none => ((files_change_nil a1).bind fun y106 => (some (y106, none))) | some x101 => ((files_change_Sync a1 x101).bind fun y114 => (some (y114.1, some y114.2)))

/-! (*headrace/files.Store).Delete -/
noncomputable def files_Store_Delete (a0 : (Option S68)) (a1 : (List UInt8)) : Option (Int × (Option S68)) :=
  match a0 with | none => ((files_change_nil a1).bind fun y106 => (some (y106, none))) | some x101 => ((files_change_Delete a1 x101).bind fun y114 => (some (y114.1, some y114.2)))

/-! (*headrace/files.Store).Rename -/
noncomputable def files_Store_Rename (a0 : (Option S68)) (a1 : (List UInt8)) (a2 : (List UInt8)) : Option (Int × (Option S68)) :=
  match a0 with | none => ((files_Store_look none a2).bind fun y110 => (if (y110 != 0) = true then (some (y110, none)) else ((files_change_nil a1).bind fun y116 => (some (y116, none))))) | some x101 => ((files_Form a1).bind fun y128 => (if (!y128) = true then (some (1, some x101)) else ((files_Store_look (some x101) a2).bind fun y134 => (if (y134 != 0) = true then (some (y134, some x101)) else ((files_change_Rename a1 x101 a2).bind fun y145 => (some (y145.1, some y145.2.1)))))))
end Go.Proofs.Ytgjhiojkkjaloaa.M
