/- The law FilesNil: a nil store has nothing. -/
import Derived.Test.YtgjhiojkkjaloaaRg
namespace Go.Proofs.Ytgjhiojkkjaloaa.P
open Go Go.RowKit Go.Proofs.Ytgjhiojkkjaloaa.E Go.Proofs.Ytgjhiojkkjaloaa.M
set_option linter.unusedVariables false

theorem FilesNil (n : List UInt8) (p : List Int) (k : Int) (h0 : gS n) (h1 : gL 1 (gI .u8) p) (h2 : gI .i64 k) : law05_FilesNil n p k = some true := by
  unfold law05_FilesNil
  rw [awake_eq, show files_Store_Read none n = some ([], 5) from rfl]
  simp only [Option.bind_some]
  rw [if_pos trivial, if_pos (by decide), show files_Store_Append none n p = some (5, none) from rfl]
  simp only [Option.bind_some]
  rw [if_pos (by decide), show files_Store_Sync none n = some (5, none) from rfl]
  simp only [Option.bind_some]
  rw [if_pos (by decide), show files_Store_Delete none n = some (5, none) from rfl]
  simp only [Option.bind_some]
  rw [if_pos (by decide), show files_Store_Rename none n n = some (5, none) from rfl]
  simp only [Option.bind_some]
  rw [if_pos (by decide), show files_Store_Arm none k = some (5, none) from rfl]
  simp only [Option.bind_some]
  rw [if_pos (by decide), show files_Store_Restart none [] = some (5, none) from rfl]
  simp only [Option.bind_some]
  rw [if_pos (by decide), show files_Store_Spoil none n k = some (5, none) from rfl]
  rfl
end Go.Proofs.Ytgjhiojkkjaloaa.P
