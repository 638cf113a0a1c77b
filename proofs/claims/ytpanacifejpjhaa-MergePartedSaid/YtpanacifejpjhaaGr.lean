/- Closed facts on the program. -/
import Derived.Test.YtpanacifejpjhaaEg
import Derived.Test.YtpanacifejpjhaaProg
namespace Go.Proofs.Ytpanacifejpjhaa.M
open Go Go.RowKit Go.Proofs.Ytpanacifejpjhaa.E
set_option linter.unusedVariables false
set_option linter.unusedSimpArgs false

theorem by25 : Try.prog.bytesOf 25 = 24 := by kernel_rfl
theorem by30 : Try.prog.bytesOf 30 = 48 := by kernel_rfl
theorem by5 : Try.prog.bytesOf 5 = 1 := by kernel_rfl
theorem ce2 : Try.prog.cellsOf 2 = 1 := by kernel_rfl
theorem ce25 : Try.prog.cellsOf 25 = 1 := by kernel_rfl
theorem ce27 : Try.prog.cellsOf 27 = 1 := by kernel_rfl
theorem ce28 : Try.prog.cellsOf 28 = 1 := by kernel_rfl
theorem ce3 : Try.prog.cellsOf 3 = 1 := by kernel_rfl
theorem ce30 : Try.prog.cellsOf 30 = 5 := by kernel_rfl
theorem ce5 : Try.prog.cellsOf 5 = 1 := by kernel_rfl
theorem ce9 : Try.prog.cellsOf 9 = 1 := by kernel_rfl
theorem en10 : EN Try.prog 10 := EN_of Try.func10 (by kernel_rfl) rfl
theorem en11 : EN Try.prog 11 := EN_of Try.func11 (by kernel_rfl) rfl
theorem en12 : EN Try.prog 12 := EN_of Try.func12 (by kernel_rfl) rfl
theorem en13 : EN Try.prog 13 := EN_of Try.func13 (by kernel_rfl) rfl
theorem en14 : EN Try.prog 14 := EN_of Try.func14 (by kernel_rfl) rfl
theorem en15 : EN Try.prog 15 := EN_of Try.func15 (by kernel_rfl) rfl
theorem en16 : EN Try.prog 16 := EN_of Try.func16 (by kernel_rfl) rfl
theorem en17 : EN Try.prog 17 := EN_of Try.func17 (by kernel_rfl) rfl
theorem en18 : EN Try.prog 18 := EN_of Try.func18 (by kernel_rfl) rfl
theorem en19 : EN Try.prog 19 := EN_of Try.func19 (by kernel_rfl) rfl
theorem en20 : EN Try.prog 20 := EN_of Try.func20 (by kernel_rfl) rfl
theorem en21 : EN Try.prog 21 := EN_of Try.func21 (by kernel_rfl) rfl
theorem en22 : EN Try.prog 22 := EN_of Try.func22 (by kernel_rfl) rfl
theorem en23 : EN Try.prog 23 := EN_of Try.func23 (by kernel_rfl) rfl
theorem en24 : EN Try.prog 24 := EN_of Try.func24 (by kernel_rfl) rfl
theorem en25 : EN Try.prog 25 := EN_of Try.func25 (by kernel_rfl) rfl
theorem en26 : EN Try.prog 26 := EN_of Try.func26 (by kernel_rfl) rfl
theorem en27 : EN Try.prog 27 := EN_of Try.func27 (by kernel_rfl) rfl
theorem en28 : EN Try.prog 28 := EN_of Try.func28 (by kernel_rfl) rfl
theorem en29 : EN Try.prog 29 := EN_of Try.func29 (by kernel_rfl) rfl
theorem en30 : EN Try.prog 30 := EN_of Try.func30 (by kernel_rfl) rfl
theorem en31 : EN Try.prog 31 := EN_of Try.func31 (by kernel_rfl) rfl
theorem en32 : EN Try.prog 32 := EN_of Try.func32 (by kernel_rfl) rfl
theorem en33 : EN Try.prog 33 := EN_of Try.func33 (by kernel_rfl) rfl
theorem en35 : EN Try.prog 35 := EN_of Try.func35 (by kernel_rfl) rfl
theorem en36 : EN Try.prog 36 := EN_of Try.func36 (by kernel_rfl) rfl
theorem en37 : EN Try.prog 37 := EN_of Try.func37 (by kernel_rfl) rfl
theorem en38 : EN Try.prog 38 := EN_of Try.func38 (by kernel_rfl) rfl
theorem en39 : EN Try.prog 39 := EN_of Try.func39 (by kernel_rfl) rfl
theorem en41 : EN Try.prog 41 := EN_of Try.func41 (by kernel_rfl) rfl
theorem ex34 (b : Nat) : EXT Try.prog 34 #[.float .f64 b] (.int .u64 b) := fun w => by kernel_rfl
theorem ex40 (n : Int) : EXT Try.prog 40 #[.int .u64 n] (.float .f64 n.toNat) := fun w => by kernel_rfl
theorem fa30_0 : FA Try.prog 30 0 0 := fun ad w => by kernel_rfl
theorem fa30_1 : FA Try.prog 30 1 1 := fun ad w => by kernel_rfl
theorem fa30_2 : FA Try.prog 30 2 2 := fun ad w => by kernel_rfl
theorem fa30_3 : FA Try.prog 30 3 3 := fun ad w => by kernel_rfl
theorem fa30_4 : FA Try.prog 30 4 4 := fun ad w => by kernel_rfl
theorem fa48_0 : FA Try.prog 48 0 0 := fun ad w => by kernel_rfl
theorem fa48_1 : FA Try.prog 48 1 1 := fun ad w => by kernel_rfl
theorem inf25 : (Try.prog.info? 25).map (fun i => (i.zero, i.size, i.bytes)) = some (some (.slice none 0 0), 1, 24) := by kernel_rfl
theorem inf3 : (Try.prog.info? 3).map (fun i => (i.zero, i.size, i.bytes)) = some (some (.int .i64 0), 1, 8) := by kernel_rfl
theorem inf30 : (Try.prog.info? 30).map (fun i => (i.zero, i.size, i.bytes)) = some (some (.agg #[(.int .u64 0), (.int .i64 0), (.int .i64 0), (str []), (.float .f64 0)]), 5, 48) := by kernel_rfl
theorem sz22 : (Try.prog.info? 22).map (·.size) = some 1 := by kernel_rfl
theorem sz25 : (Try.prog.info? 25).map (·.size) = some 1 := by kernel_rfl
theorem sz3 : (Try.prog.info? 3).map (·.size) = some 1 := by kernel_rfl
theorem sz30 : (Try.prog.info? 30).map (·.size) = some 5 := by kernel_rfl
theorem sz41 : (Try.prog.info? 41).map (·.size) = some 1 := by kernel_rfl
theorem sz5 : (Try.prog.info? 5).map (·.size) = some 1 := by kernel_rfl
theorem sz9 : (Try.prog.info? 9).map (·.size) = some 1 := by kernel_rfl
theorem zr30 : (Try.prog.info? 30).bind (·.zero) = some (.agg #[(.int .u64 0), (.int .i64 0), (.int .i64 0), (str []), (.float .f64 0)]) := by kernel_rfl
end Go.Proofs.Ytpanacifejpjhaa.M
