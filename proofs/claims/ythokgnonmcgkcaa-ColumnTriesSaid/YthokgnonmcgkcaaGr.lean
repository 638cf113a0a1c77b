/- Closed facts on the program. -/
import Derived.Test.YthokgnonmcgkcaaEi
import Derived.Test.YthokgnonmcgkcaaProg
namespace Go.Proofs.Ythokgnonmcgkcaa.M
open Go Go.RowKit Go.Proofs.Ythokgnonmcgkcaa.E
set_option linter.unusedVariables false
set_option linter.unusedSimpArgs false

def badC : List PanicEntry := [{ v := .iface 69 (.agg #[]), recovered := false }]
theorem by2 : Try.prog.bytesOf 2 = 8 := by kernel_rfl
theorem by4 : Try.prog.bytesOf 4 = 1 := by kernel_rfl
theorem by5 : Try.prog.bytesOf 5 = 1 := by kernel_rfl
theorem by53 : Try.prog.bytesOf 53 = 8 := by kernel_rfl
theorem ce2 : Try.prog.cellsOf 2 = 1 := by kernel_rfl
theorem ce4 : Try.prog.cellsOf 4 = 1 := by kernel_rfl
theorem ce5 : Try.prog.cellsOf 5 = 1 := by kernel_rfl
theorem ce53 : Try.prog.cellsOf 53 = 1 := by kernel_rfl
theorem en10 : EN Try.prog 10 := EN_of Try.func10 (by kernel_rfl) rfl
theorem en11 : EN Try.prog 11 := EN_of Try.func11 (by kernel_rfl) rfl
theorem en12 : EN Try.prog 12 := EN_of Try.func12 (by kernel_rfl) rfl
theorem en13 : EN Try.prog 13 := EN_of Try.func13 (by kernel_rfl) rfl
theorem en14 : EN Try.prog 14 := EN_of Try.func14 (by kernel_rfl) rfl
theorem en15 : EN Try.prog 15 := EN_of Try.func15 (by kernel_rfl) rfl
theorem en16 : EN Try.prog 16 := EN_of Try.func16 (by kernel_rfl) rfl
theorem en17 : EN Try.prog 17 := EN_of Try.func17 (by kernel_rfl) rfl
theorem en18 : EN Try.prog 18 := EN_of Try.func18 (by kernel_rfl) rfl
theorem en19 : EN Try.prog 19 := EN_of Try.func19 (by kernel_rfl) rfl
theorem en20 : EN Try.prog 20 := EN_of Try.func20 (by kernel_rfl) rfl
theorem en21 : EN Try.prog 21 := EN_of Try.func21 (by kernel_rfl) rfl
theorem en22 : EN Try.prog 22 := EN_of Try.func22 (by kernel_rfl) rfl
theorem en23 : EN Try.prog 23 := EN_of Try.func23 (by kernel_rfl) rfl
theorem en24 : EN Try.prog 24 := EN_of Try.func24 (by kernel_rfl) rfl
theorem en25 : EN Try.prog 25 := EN_of Try.func25 (by kernel_rfl) rfl
theorem en26 : EN Try.prog 26 := EN_of Try.func26 (by kernel_rfl) rfl
theorem en27 : EN Try.prog 27 := EN_of Try.func27 (by kernel_rfl) rfl
theorem en28 : EN Try.prog 28 := EN_of Try.func28 (by kernel_rfl) rfl
theorem en29 : EN Try.prog 29 := EN_of Try.func29 (by kernel_rfl) rfl
theorem en30 : EN Try.prog 30 := EN_of Try.func30 (by kernel_rfl) rfl
theorem en31 : EN Try.prog 31 := EN_of Try.func31 (by kernel_rfl) rfl
theorem en32 : EN Try.prog 32 := EN_of Try.func32 (by kernel_rfl) rfl
theorem en33 : EN Try.prog 33 := EN_of Try.func33 (by kernel_rfl) rfl
theorem en34 : EN Try.prog 34 := EN_of Try.func34 (by kernel_rfl) rfl
theorem en35 : EN Try.prog 35 := EN_of Try.func35 (by kernel_rfl) rfl
theorem en36 : EN Try.prog 36 := EN_of Try.func36 (by kernel_rfl) rfl
theorem en39 : EN Try.prog 39 := EN_of Try.func39 (by kernel_rfl) rfl
theorem en40 : EN Try.prog 40 := EN_of Try.func40 (by kernel_rfl) rfl
theorem en41 : EN Try.prog 41 := EN_of Try.func41 (by kernel_rfl) rfl
theorem en42 : EN Try.prog 42 := EN_of Try.func42 (by kernel_rfl) rfl
theorem en43 : EN Try.prog 43 := EN_of Try.func43 (by kernel_rfl) rfl
theorem en44 : EN Try.prog 44 := EN_of Try.func44 (by kernel_rfl) rfl
theorem en45 : EN Try.prog 45 := EN_of Try.func45 (by kernel_rfl) rfl
theorem en46 : EN Try.prog 46 := EN_of Try.func46 (by kernel_rfl) rfl
theorem en47 : EN Try.prog 47 := EN_of Try.func47 (by kernel_rfl) rfl
theorem en48 : EN Try.prog 48 := EN_of Try.func48 (by kernel_rfl) rfl
theorem en49 : EN Try.prog 49 := EN_of Try.func49 (by kernel_rfl) rfl
theorem en50 : EN Try.prog 50 := EN_of Try.func50 (by kernel_rfl) rfl
theorem en51 : EN Try.prog 51 := EN_of Try.func51 (by kernel_rfl) rfl
theorem en52 : EN Try.prog 52 := EN_of Try.func52 (by kernel_rfl) rfl
theorem en53 : EN Try.prog 53 := EN_of Try.func53 (by kernel_rfl) rfl
theorem en54 : EN Try.prog 54 := EN_of Try.func54 (by kernel_rfl) rfl
theorem en61 : EN Try.prog 61 := EN_of Try.func61 (by kernel_rfl) rfl
theorem en62 : EN Try.prog 62 := EN_of Try.func62 (by kernel_rfl) rfl
theorem en63 : EN Try.prog 63 := EN_of Try.func63 (by kernel_rfl) rfl
theorem en64 : EN Try.prog 64 := EN_of Try.func64 (by kernel_rfl) rfl
theorem en66 : EN Try.prog 66 := EN_of Try.func66 (by kernel_rfl) rfl
theorem en68 : EN Try.prog 68 := EN_of Try.func68 (by kernel_rfl) rfl
theorem en74 : EN Try.prog 74 := EN_of Try.func74 (by kernel_rfl) rfl
theorem ex65 (b : Nat) : EXT Try.prog 65 #[.float .f64 b] (.int .u64 b) := fun w => by kernel_rfl
theorem ex67 (n : Int) : EXT Try.prog 67 #[.int .u64 n] (.float .f64 n.toNat) := fun w => by kernel_rfl
theorem fa26_0 : FA Try.prog 26 0 0 := fun ad w => by kernel_rfl
theorem fa26_1 : FA Try.prog 26 1 1 := fun ad w => by kernel_rfl
theorem fa72_0 : FA Try.prog 72 0 0 := fun ad w => by kernel_rfl
theorem inf2 : (Try.prog.info? 2).map (fun i => (i.zero, i.size, i.bytes)) = some (some (.int .i64 0), 1, 8) := by kernel_rfl
theorem inf4 : (Try.prog.info? 4).map (fun i => (i.zero, i.size, i.bytes)) = some (some (.bool false), 1, 1) := by kernel_rfl
theorem inf5 : (Try.prog.info? 5).map (fun i => (i.zero, i.size, i.bytes)) = some (some (.int .u8 0), 1, 1) := by kernel_rfl
theorem inf53 : (Try.prog.info? 53).map (fun i => (i.zero, i.size, i.bytes)) = some (some (.float .f64 0), 1, 8) := by kernel_rfl
theorem inf9 : (Try.prog.info? 9).map (fun i => (i.zero, i.size, i.bytes)) = some (some (str []), 1, 16) := by kernel_rfl
theorem sz2 : (Try.prog.info? 2).map (·.size) = some 1 := by kernel_rfl
theorem sz22 : (Try.prog.info? 22).map (·.size) = some 1 := by kernel_rfl
theorem sz24 : (Try.prog.info? 24).map (·.size) = some 1 := by kernel_rfl
theorem sz3 : (Try.prog.info? 3).map (·.size) = some 1 := by kernel_rfl
theorem sz37 : (Try.prog.info? 37).map (·.size) = some 1 := by kernel_rfl
theorem sz4 : (Try.prog.info? 4).map (·.size) = some 1 := by kernel_rfl
theorem sz5 : (Try.prog.info? 5).map (·.size) = some 1 := by kernel_rfl
theorem sz53 : (Try.prog.info? 53).map (·.size) = some 1 := by kernel_rfl
theorem sz57 : (Try.prog.info? 57).map (·.size) = some 1 := by kernel_rfl
theorem sz69 : (Try.prog.info? 69).map (·.size) = some 0 := by kernel_rfl
theorem sz9 : (Try.prog.info? 9).map (·.size) = some 1 := by kernel_rfl
theorem zr24 : (Try.prog.info? 24).bind (·.zero) = some (.pointer none) := by kernel_rfl
theorem zr3 : (Try.prog.info? 3).bind (·.zero) = some (.int .i64 0) := by kernel_rfl
theorem zr37 : (Try.prog.info? 37).bind (·.zero) = some (.slice none 0 0) := by kernel_rfl
theorem zr4 : (Try.prog.info? 4).bind (·.zero) = some (.bool false) := by kernel_rfl
theorem zr57 : (Try.prog.info? 57).bind (·.zero) = some (.slice none 0 0) := by kernel_rfl
theorem zr69 : (Try.prog.info? 69).bind (·.zero) = some (.agg #[]) := by kernel_rfl
end Go.Proofs.Ythokgnonmcgkcaa.M
