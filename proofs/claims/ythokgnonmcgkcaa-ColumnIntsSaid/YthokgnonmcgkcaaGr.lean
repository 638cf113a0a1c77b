/- Closed facts on the program. -/
import Derived.Test.YthokgnonmcgkcaaEi
import Derived.Test.YthokgnonmcgkcaaProg
namespace Go.Proofs.Ythokgnonmcgkcaa.M
open Go Go.RowKit Go.Proofs.Ythokgnonmcgkcaa.E
set_option linter.unusedVariables false
set_option linter.unusedSimpArgs false

def badC : List PanicEntry := [{ v := .iface 69 (.agg #[]), recovered := false }]
theorem by2 : Try.prog.bytesOf 2 = 8 := by kernel_rfl
theorem by4 : Try.prog.bytesOf 4 = 1 := by kernel_rfl
theorem by5 : Try.prog.bytesOf 5 = 1 := by kernel_rfl
theorem ce2 : Try.prog.cellsOf 2 = 1 := by kernel_rfl
theorem ce4 : Try.prog.cellsOf 4 = 1 := by kernel_rfl
theorem ce5 : Try.prog.cellsOf 5 = 1 := by kernel_rfl
theorem en10 : EN Try.prog 10 := EN_of Try.func10 (by kernel_rfl) rfl
theorem en11 : EN Try.prog 11 := EN_of Try.func11 (by kernel_rfl) rfl
theorem en13 : EN Try.prog 13 := EN_of Try.func13 (by kernel_rfl) rfl
theorem en14 : EN Try.prog 14 := EN_of Try.func14 (by kernel_rfl) rfl
theorem en15 : EN Try.prog 15 := EN_of Try.func15 (by kernel_rfl) rfl
theorem en16 : EN Try.prog 16 := EN_of Try.func16 (by kernel_rfl) rfl
theorem en19 : EN Try.prog 19 := EN_of Try.func19 (by kernel_rfl) rfl
theorem en20 : EN Try.prog 20 := EN_of Try.func20 (by kernel_rfl) rfl
theorem en21 : EN Try.prog 21 := EN_of Try.func21 (by kernel_rfl) rfl
theorem en22 : EN Try.prog 22 := EN_of Try.func22 (by kernel_rfl) rfl
theorem en23 : EN Try.prog 23 := EN_of Try.func23 (by kernel_rfl) rfl
theorem en24 : EN Try.prog 24 := EN_of Try.func24 (by kernel_rfl) rfl
theorem en25 : EN Try.prog 25 := EN_of Try.func25 (by kernel_rfl) rfl
theorem en26 : EN Try.prog 26 := EN_of Try.func26 (by kernel_rfl) rfl
theorem en27 : EN Try.prog 27 := EN_of Try.func27 (by kernel_rfl) rfl
theorem en39 : EN Try.prog 39 := EN_of Try.func39 (by kernel_rfl) rfl
theorem en40 : EN Try.prog 40 := EN_of Try.func40 (by kernel_rfl) rfl
theorem en41 : EN Try.prog 41 := EN_of Try.func41 (by kernel_rfl) rfl
theorem en42 : EN Try.prog 42 := EN_of Try.func42 (by kernel_rfl) rfl
theorem en43 : EN Try.prog 43 := EN_of Try.func43 (by kernel_rfl) rfl
theorem en44 : EN Try.prog 44 := EN_of Try.func44 (by kernel_rfl) rfl
theorem en45 : EN Try.prog 45 := EN_of Try.func45 (by kernel_rfl) rfl
theorem en46 : EN Try.prog 46 := EN_of Try.func46 (by kernel_rfl) rfl
theorem en47 : EN Try.prog 47 := EN_of Try.func47 (by kernel_rfl) rfl
theorem en51 : EN Try.prog 51 := EN_of Try.func51 (by kernel_rfl) rfl
theorem en61 : EN Try.prog 61 := EN_of Try.func61 (by kernel_rfl) rfl
theorem en62 : EN Try.prog 62 := EN_of Try.func62 (by kernel_rfl) rfl
theorem en63 : EN Try.prog 63 := EN_of Try.func63 (by kernel_rfl) rfl
theorem en64 : EN Try.prog 64 := EN_of Try.func64 (by kernel_rfl) rfl
theorem fa26_0 : FA Try.prog 26 0 0 := fun ad w => by kernel_rfl
theorem fa26_1 : FA Try.prog 26 1 1 := fun ad w => by kernel_rfl
theorem fa72_0 : FA Try.prog 72 0 0 := fun ad w => by kernel_rfl
theorem inf2 : (Try.prog.info? 2).map (fun i => (i.zero, i.size, i.bytes)) = some (some (.int .i64 0), 1, 8) := by kernel_rfl
theorem inf5 : (Try.prog.info? 5).map (fun i => (i.zero, i.size, i.bytes)) = some (some (.int .u8 0), 1, 1) := by kernel_rfl
theorem sz2 : (Try.prog.info? 2).map (·.size) = some 1 := by kernel_rfl
theorem sz22 : (Try.prog.info? 22).map (·.size) = some 1 := by kernel_rfl
theorem sz3 : (Try.prog.info? 3).map (·.size) = some 1 := by kernel_rfl
theorem sz37 : (Try.prog.info? 37).map (·.size) = some 1 := by kernel_rfl
theorem sz4 : (Try.prog.info? 4).map (·.size) = some 1 := by kernel_rfl
theorem sz5 : (Try.prog.info? 5).map (·.size) = some 1 := by kernel_rfl
theorem sz69 : (Try.prog.info? 69).map (·.size) = some 0 := by kernel_rfl
theorem zr37 : (Try.prog.info? 37).bind (·.zero) = some (.slice none 0 0) := by kernel_rfl
theorem zr4 : (Try.prog.info? 4).bind (·.zero) = some (.bool false) := by kernel_rfl
theorem zr69 : (Try.prog.info? 69).bind (·.zero) = some (.agg #[]) := by kernel_rfl
end Go.Proofs.Ythokgnonmcgkcaa.M
