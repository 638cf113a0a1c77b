/- Closed facts on the program. -/
import Derived.Test.YtgjhiojkkjaloaaEl
import Derived.Test.YtgjhiojkkjaloaaProg
namespace Go.Proofs.Ytgjhiojkkjaloaa.M
open Go Go.RowKit Go.Proofs.Ytgjhiojkkjaloaa.E
set_option linter.unusedVariables false
set_option linter.unusedSimpArgs false

theorem by3 : Try.prog.bytesOf 3 = 8 := by kernel_rfl
theorem by45 : Try.prog.bytesOf 45 = 80 := by kernel_rfl
theorem by5 : Try.prog.bytesOf 5 = 1 := by kernel_rfl
theorem ce22 : Try.prog.cellsOf 22 = 1 := by kernel_rfl
theorem ce3 : Try.prog.cellsOf 3 = 1 := by kernel_rfl
theorem ce40 : Try.prog.cellsOf 40 = 1 := by kernel_rfl
theorem ce45 : Try.prog.cellsOf 45 = 7 := by kernel_rfl
theorem ce5 : Try.prog.cellsOf 5 = 1 := by kernel_rfl
theorem ce9 : Try.prog.cellsOf 9 = 1 := by kernel_rfl
theorem en10 : EN Try.prog 10 := EN_of Try.func10 (by kernel_rfl) rfl
theorem en11 : EN Try.prog 11 := EN_of Try.func11 (by kernel_rfl) rfl
theorem en12 : EN Try.prog 12 := EN_of Try.func12 (by kernel_rfl) rfl
theorem en13 : EN Try.prog 13 := EN_of Try.func13 (by kernel_rfl) rfl
theorem en14 : EN Try.prog 14 := EN_of Try.func14 (by kernel_rfl) rfl
theorem en15 : EN Try.prog 15 := EN_of Try.func15 (by kernel_rfl) rfl
theorem en16 : EN Try.prog 16 := EN_of Try.func16 (by kernel_rfl) rfl
theorem en17 : EN Try.prog 17 := EN_of Try.func17 (by kernel_rfl) rfl
theorem en18 : EN Try.prog 18 := EN_of Try.func18 (by kernel_rfl) rfl
theorem en19 : EN Try.prog 19 := EN_of Try.func19 (by kernel_rfl) rfl
theorem en20 : EN Try.prog 20 := EN_of Try.func20 (by kernel_rfl) rfl
theorem en21 : EN Try.prog 21 := EN_of Try.func21 (by kernel_rfl) rfl
theorem en22 : EN Try.prog 22 := EN_of Try.func22 (by kernel_rfl) rfl
theorem en23 : EN Try.prog 23 := EN_of Try.func23 (by kernel_rfl) rfl
theorem en24 : EN Try.prog 24 := EN_of Try.func24 (by kernel_rfl) rfl
theorem en25 : EN Try.prog 25 := EN_of Try.func25 (by kernel_rfl) rfl
theorem en26 : EN Try.prog 26 := EN_of Try.func26 (by kernel_rfl) rfl
theorem en27 : EN Try.prog 27 := EN_of Try.func27 (by kernel_rfl) rfl
theorem en28 : EN Try.prog 28 := EN_of Try.func28 (by kernel_rfl) rfl
theorem en29 : EN Try.prog 29 := EN_of Try.func29 (by kernel_rfl) rfl
theorem en30 : EN Try.prog 30 := EN_of Try.func30 (by kernel_rfl) rfl
theorem en31 : EN Try.prog 31 := EN_of Try.func31 (by kernel_rfl) rfl
theorem en32 : EN Try.prog 32 := EN_of Try.func32 (by kernel_rfl) rfl
theorem en33 : EN Try.prog 33 := EN_of Try.func33 (by kernel_rfl) rfl
theorem en34 : EN Try.prog 34 := EN_of Try.func34 (by kernel_rfl) rfl
theorem en35 : EN Try.prog 35 := EN_of Try.func35 (by kernel_rfl) rfl
theorem en36 : EN Try.prog 36 := EN_of Try.func36 (by kernel_rfl) rfl
theorem en37 : EN Try.prog 37 := EN_of Try.func37 (by kernel_rfl) rfl
theorem en38 : EN Try.prog 38 := EN_of Try.func38 (by kernel_rfl) rfl
theorem en39 : EN Try.prog 39 := EN_of Try.func39 (by kernel_rfl) rfl
theorem en40 : EN Try.prog 40 := EN_of Try.func40 (by kernel_rfl) rfl
theorem en41 : EN Try.prog 41 := EN_of Try.func41 (by kernel_rfl) rfl
theorem en42 : EN Try.prog 42 := EN_of Try.func42 (by kernel_rfl) rfl
theorem en43 : EN Try.prog 43 := EN_of Try.func43 (by kernel_rfl) rfl
theorem en44 : EN Try.prog 44 := EN_of Try.func44 (by kernel_rfl) rfl
theorem en45 : EN Try.prog 45 := EN_of Try.func45 (by kernel_rfl) rfl
theorem en46 : EN Try.prog 46 := EN_of Try.func46 (by kernel_rfl) rfl
theorem en47 : EN Try.prog 47 := EN_of Try.func47 (by kernel_rfl) rfl
theorem en48 : EN Try.prog 48 := EN_of Try.func48 (by kernel_rfl) rfl
theorem en49 : EN Try.prog 49 := EN_of Try.func49 (by kernel_rfl) rfl
theorem en50 : EN Try.prog 50 := EN_of Try.func50 (by kernel_rfl) rfl
theorem fa45_0 : FA Try.prog 45 0 0 := fun ad w => by kernel_rfl
theorem fa45_1 : FA Try.prog 45 1 1 := fun ad w => by kernel_rfl
theorem fa45_2 : FA Try.prog 45 2 2 := fun ad w => by kernel_rfl
theorem fa45_3 : FA Try.prog 45 3 3 := fun ad w => by kernel_rfl
theorem fa45_4 : FA Try.prog 45 4 4 := fun ad w => by kernel_rfl
theorem fa45_5 : FA Try.prog 45 5 5 := fun ad w => by kernel_rfl
theorem fa45_6 : FA Try.prog 45 6 6 := fun ad w => by kernel_rfl
theorem fa53_0 : FA Try.prog 53 0 0 := fun ad w => by kernel_rfl
theorem fa53_1 : FA Try.prog 53 1 1 := fun ad w => by kernel_rfl
theorem fa53_2 : FA Try.prog 53 2 2 := fun ad w => by kernel_rfl
theorem fa53_3 : FA Try.prog 53 3 3 := fun ad w => by kernel_rfl
theorem fa53_4 : FA Try.prog 53 4 4 := fun ad w => by kernel_rfl
theorem fa62_0 : FA Try.prog 62 0 0 := fun ad w => by kernel_rfl
theorem fa62_1 : FA Try.prog 62 1 1 := fun ad w => by kernel_rfl
theorem fa62_2 : FA Try.prog 62 2 2 := fun ad w => by kernel_rfl
theorem fa68_0 : FA Try.prog 68 0 0 := fun ad w => by kernel_rfl
theorem fa68_1 : FA Try.prog 68 1 1 := fun ad w => by kernel_rfl
theorem fa68_2 : FA Try.prog 68 2 2 := fun ad w => by kernel_rfl
theorem fa68_3 : FA Try.prog 68 3 3 := fun ad w => by kernel_rfl
theorem fa68_4 : FA Try.prog 68 4 4 := fun ad w => by kernel_rfl
theorem fa73_0 : FA Try.prog 73 0 0 := fun ad w => by kernel_rfl
theorem fa73_1 : FA Try.prog 73 1 1 := fun ad w => by kernel_rfl
theorem fa73_2 : FA Try.prog 73 2 2 := fun ad w => by kernel_rfl
theorem inf5 : (Try.prog.info? 5).map (fun i => (i.zero, i.size, i.bytes)) = some (some (.int .u8 0), 1, 1) := by kernel_rfl
theorem inf62 : (Try.prog.info? 62).map (fun i => (i.zero, i.size, i.bytes)) = some (some (.agg #[(str []), (str []), (str [])]), 3, 48) := by kernel_rfl
theorem inf73 : (Try.prog.info? 73).map (fun i => (i.zero, i.size, i.bytes)) = some (some (.agg #[(str []), (.slice none 0 0), (.int .i64 0)]), 3, 48) := by kernel_rfl
theorem inf9 : (Try.prog.info? 9).map (fun i => (i.zero, i.size, i.bytes)) = some (some (str []), 1, 16) := by kernel_rfl
theorem ovl51 {args : Array Value} {w : World} (h : (Extern.SlicesOverlaps.overlaps #[66, 66] #[4] args).run Try.prog w = .ok (.bool false) w) : (callFunc 51 args).run Try.prog w = .ok (.value (.bool false)) w := by
  rw [run_callFunc_extern Try.func51 (by kernel_rfl) (by kernel_rfl) (by kernel_rfl) (e := Extern.SlicesOverlaps.overlaps #[66, 66] #[4]) (by kernel_rfl), h]
  rfl
theorem sz22 : (Try.prog.info? 22).map (·.size) = some 1 := by kernel_rfl
theorem sz3 : (Try.prog.info? 3).map (·.size) = some 1 := by kernel_rfl
theorem sz4 : (Try.prog.info? 4).map (·.size) = some 1 := by kernel_rfl
theorem sz45 : (Try.prog.info? 45).map (·.size) = some 7 := by kernel_rfl
theorem sz5 : (Try.prog.info? 5).map (·.size) = some 1 := by kernel_rfl
theorem sz51 : (Try.prog.info? 51).map (·.size) = some 1 := by kernel_rfl
theorem sz62 : (Try.prog.info? 62).map (·.size) = some 3 := by kernel_rfl
theorem sz66 : (Try.prog.info? 66).map (·.size) = some 1 := by kernel_rfl
theorem sz73 : (Try.prog.info? 73).map (·.size) = some 3 := by kernel_rfl
theorem sz9 : (Try.prog.info? 9).map (·.size) = some 1 := by kernel_rfl
theorem zr34 : (Try.prog.info? 34).bind (·.zero) = some (.agg #[(.int .i64 0), (.int .i64 0), (.int .i64 0)]) := by kernel_rfl
theorem zr45 : (Try.prog.info? 45).bind (·.zero) = some (.agg #[(.int .u8 0), (.int .u8 0), (.int .u8 0), (str []), (.slice none 0 0), (.int .i64 0), (.slice none 0 0)]) := by kernel_rfl
theorem zr62 : (Try.prog.info? 62).bind (·.zero) = some (.agg #[(str []), (str []), (str [])]) := by kernel_rfl
theorem zr73 : (Try.prog.info? 73).bind (·.zero) = some (.agg #[(str []), (.slice none 0 0), (.int .i64 0)]) := by kernel_rfl
end Go.Proofs.Ytgjhiojkkjaloaa.M
