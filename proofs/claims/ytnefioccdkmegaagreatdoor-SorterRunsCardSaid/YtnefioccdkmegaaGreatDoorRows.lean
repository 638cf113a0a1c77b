/-
  NARROWER THAN 'FOR EVERY INPUT', by the rows' own cells (each row's printed sentence says how): SorterSorts: laid · SorterFull: laid · SorterPlans: laid · SorterErrs: laid · SorterRuns: laid · SorterFalls: laid.
  DERIVED. THE GIVEN ROWS OF THIS SEAT. 6 by the template 'for every input the law returns true; each argument reads behind the call as it read before'; 0 by the template 'total and deterministic' (their statements: YtnefioccdkmegaaGreatDoorTotals.lean).
  GIVEN WITH THE SEED: the statements are not yours to turn. If you find one false, say at which input.
  Laid BY PROGRAM, IN A SANDBOX (cutbox-rows.mjs): the forced cells as the released guide's own fill.sh prints them over the translation f4fa2e3fa442d064… (all of the seat's roots in one cut). By AI agents, Wed Nov 11 2026. No macro, syntax, notation, axiom, sorry.
-/
import Derived.Test.YtnefioccdkmegaaGreatDoorChecked
import GoSem.Claim
import GoSem.ClaimJoined
import GoSem.ClaimMapViews
import Derived.JoinedTies
import Derived.KernelRfl
namespace Go.Proofs.YtnefioccdkmegaaGreatDoor
/- THE CELL 'sum', in the pinned program and in every row, IS THE sha256 OF THE DUMP (.gsa) THAT YtnefioccdkmegaaGreatDoorProg.lean LOADS. Nothing in Lean hashes anything: it is a label: what it is worth is what the hold of that sum in a sandbox is worth. -/
noncomputable def Tryz.pinned : Pinned := { name := "ytnefioccdkmegaagreatdoor", sum := "f4fa2e3fa442d06474d159147d6df0a1b63dedcf50621be72b94c0d060b4a1ae", checked := Tryz.checked }
namespace Rows
def none {H : Type} : Left H := { results := [], args := [] }

/- WHAT THE LISTED PACKAGE-LEVEL VARIABLES READ AS WHEN THE CALL BEGINS. Each datum BY PROGRAM (the guide's laid-datum.mjs) off the statement by which the dump's own 'gosem.cut.vars' lays the variable. In a bare row this is a premise. The card (YtnefioccdkmegaaGreatDoorCards.lean) ties it to the program's text. -/
def laid_math_bits_deBruijn32tab {H : Type} : DataW H := .agg [.lit (.int .u8 0), .lit (.int .u8 1), .lit (.int .u8 28), .lit (.int .u8 2), .lit (.int .u8 29), .lit (.int .u8 14), .lit (.int .u8 24), .lit (.int .u8 3), .lit (.int .u8 30), .lit (.int .u8 22), .lit (.int .u8 20), .lit (.int .u8 15), .lit (.int .u8 25), .lit (.int .u8 17), .lit (.int .u8 4), .lit (.int .u8 8), .lit (.int .u8 31), .lit (.int .u8 27), .lit (.int .u8 13), .lit (.int .u8 23), .lit (.int .u8 21), .lit (.int .u8 19), .lit (.int .u8 16), .lit (.int .u8 7), .lit (.int .u8 26), .lit (.int .u8 12), .lit (.int .u8 18), .lit (.int .u8 6), .lit (.int .u8 11), .lit (.int .u8 5), .lit (.int .u8 10), .lit (.int .u8 9)]
def laid_math_bits_deBruijn64tab {H : Type} : DataW H := .agg [.lit (.int .u8 0), .lit (.int .u8 1), .lit (.int .u8 56), .lit (.int .u8 2), .lit (.int .u8 57), .lit (.int .u8 49), .lit (.int .u8 28), .lit (.int .u8 3), .lit (.int .u8 61), .lit (.int .u8 58), .lit (.int .u8 42), .lit (.int .u8 50), .lit (.int .u8 38), .lit (.int .u8 29), .lit (.int .u8 17), .lit (.int .u8 4), .lit (.int .u8 62), .lit (.int .u8 47), .lit (.int .u8 59), .lit (.int .u8 36), .lit (.int .u8 45), .lit (.int .u8 43), .lit (.int .u8 51), .lit (.int .u8 22), .lit (.int .u8 53), .lit (.int .u8 39), .lit (.int .u8 33), .lit (.int .u8 30), .lit (.int .u8 24), .lit (.int .u8 18), .lit (.int .u8 12), .lit (.int .u8 5), .lit (.int .u8 63), .lit (.int .u8 55), .lit (.int .u8 48), .lit (.int .u8 27), .lit (.int .u8 60), .lit (.int .u8 41), .lit (.int .u8 37), .lit (.int .u8 16), .lit (.int .u8 46), .lit (.int .u8 35), .lit (.int .u8 44), .lit (.int .u8 21), .lit (.int .u8 52), .lit (.int .u8 32), .lit (.int .u8 23), .lit (.int .u8 11), .lit (.int .u8 54), .lit (.int .u8 26), .lit (.int .u8 40), .lit (.int .u8 15), .lit (.int .u8 34), .lit (.int .u8 20), .lit (.int .u8 31), .lit (.int .u8 10), .lit (.int .u8 25), .lit (.int .u8 14), .lit (.int .u8 19), .lit (.int .u8 9), .lit (.int .u8 13), .lit (.int .u8 8), .lit (.int .u8 7), .lit (.int .u8 6)]
def laid_internal_strconv_uint64pow10 {H : Type} : DataW H := .agg [.lit (.int .u64 1), .lit (.int .u64 10), .lit (.int .u64 100), .lit (.int .u64 1000), .lit (.int .u64 10000), .lit (.int .u64 100000), .lit (.int .u64 1000000), .lit (.int .u64 10000000), .lit (.int .u64 100000000), .lit (.int .u64 1000000000), .lit (.int .u64 10000000000), .lit (.int .u64 100000000000), .lit (.int .u64 1000000000000), .lit (.int .u64 10000000000000), .lit (.int .u64 100000000000000), .lit (.int .u64 1000000000000000), .lit (.int .u64 10000000000000000), .lit (.int .u64 100000000000000000), .lit (.int .u64 1000000000000000000), .lit (.int .u64 10000000000000000000)]
def laid_headrace_page_table {H : Type} : DataW H := .agg [.lit (.int .u32 0), .lit (.int .u32 498536548), .lit (.int .u32 997073096), .lit (.int .u32 651767980), .lit (.int .u32 1994146192), .lit (.int .u32 1802195444), .lit (.int .u32 1303535960), .lit (.int .u32 1342533948), .lit (.int .u32 3988292384), .lit (.int .u32 4027552580), .lit (.int .u32 3604390888), .lit (.int .u32 3412177804), .lit (.int .u32 2607071920), .lit (.int .u32 2262029012), .lit (.int .u32 2685067896), .lit (.int .u32 3183342108)]

/-- 'headracelaw10.SorterSorts': WHATEVER THE INPUT: true; the input reads as it did. -/
def sorterSortsSpec : ChangeSpec := { name := "sorterSorts", fn := fun _ => fun
  | [d1, d2, d3] => { results := [.lit (.bool true)], args := [d1, d2, d3] }
  | _ => none }
def sorterSortsRow : OpenClaim := { program := "ytnefioccdkmegaagreatdoor", sum := "f4fa2e3fa442d06474d159147d6df0a1b63dedcf50621be72b94c0d060b4a1ae", func := "headrace/headracelaw10.SorterSorts", spec := "sorterSorts", inPlace := ["math.Float64frombits", "math.Float64bits", "slices.overlaps[headrace/files.file]"], unfollowed := true, recurses := true, named := ["internal/strconv.uint64pow10", "math/bits.deBruijn32tab", "math/bits.deBruijn64tab", "headrace/page.table"], apart := false, laid := [("math/bits.deBruijn32tab", laid_math_bits_deBruijn32tab), ("math/bits.deBruijn64tab", laid_math_bits_deBruijn64tab), ("internal/strconv.uint64pow10", laid_internal_strconv_uint64pow10), ("headrace/page.table", laid_headrace_page_table)] }
def SorterSortsSaid : Prop := sorterSortsRow.holds Tryz.pinned (OpenSpec.ofChange sorterSortsSpec)

/-- ITS FALSE NEIGHBOUR: 'it returns false'. Refute it at one input. -/
def sorterSortsWrong : ChangeSpec := { name := "sorterSorts", fn := fun _ => fun
  | [d1, d2, d3] => { results := [.lit (.bool false)], args := [d1, d2, d3] }
  | _ => none }
def SorterSortsWrongFalsely : Prop := sorterSortsRow.holds Tryz.pinned (OpenSpec.ofChange sorterSortsWrong)

/-- 'headracelaw10.SorterFull': WHATEVER THE INPUT: true; the input reads as it did. -/
def sorterFullSpec : ChangeSpec := { name := "sorterFull", fn := fun _ => fun
  | [d1, d2, d3] => { results := [.lit (.bool true)], args := [d1, d2, d3] }
  | _ => none }
def sorterFullRow : OpenClaim := { program := "ytnefioccdkmegaagreatdoor", sum := "f4fa2e3fa442d06474d159147d6df0a1b63dedcf50621be72b94c0d060b4a1ae", func := "headrace/headracelaw10.SorterFull", spec := "sorterFull", inPlace := ["math.Float64frombits", "math.Float64bits", "slices.overlaps[headrace/files.file]"], unfollowed := true, recurses := true, named := ["internal/strconv.uint64pow10", "math/bits.deBruijn32tab", "math/bits.deBruijn64tab", "headrace/page.table"], apart := false, laid := [("math/bits.deBruijn32tab", laid_math_bits_deBruijn32tab), ("math/bits.deBruijn64tab", laid_math_bits_deBruijn64tab), ("internal/strconv.uint64pow10", laid_internal_strconv_uint64pow10), ("headrace/page.table", laid_headrace_page_table)] }
def SorterFullSaid : Prop := sorterFullRow.holds Tryz.pinned (OpenSpec.ofChange sorterFullSpec)

/-- ITS FALSE NEIGHBOUR: 'it returns false'. Refute it at one input. -/
def sorterFullWrong : ChangeSpec := { name := "sorterFull", fn := fun _ => fun
  | [d1, d2, d3] => { results := [.lit (.bool false)], args := [d1, d2, d3] }
  | _ => none }
def SorterFullWrongFalsely : Prop := sorterFullRow.holds Tryz.pinned (OpenSpec.ofChange sorterFullWrong)

/-- 'headracelaw10.SorterPlans': WHATEVER THE INPUT: true; the input reads as it did. -/
def sorterPlansSpec : ChangeSpec := { name := "sorterPlans", fn := fun _ => fun
  | [d1, d2, d3, d4, d5] => { results := [.lit (.bool true)], args := [d1, d2, d3, d4, d5] }
  | _ => none }
def sorterPlansRow : OpenClaim := { program := "ytnefioccdkmegaagreatdoor", sum := "f4fa2e3fa442d06474d159147d6df0a1b63dedcf50621be72b94c0d060b4a1ae", func := "headrace/headracelaw10.SorterPlans", spec := "sorterPlans", inPlace := ["math.Float64frombits", "math.Float64bits", "slices.overlaps[headrace/files.file]"], unfollowed := true, recurses := true, named := ["internal/strconv.uint64pow10", "math/bits.deBruijn32tab", "math/bits.deBruijn64tab", "headrace/page.table"], apart := false, laid := [("math/bits.deBruijn32tab", laid_math_bits_deBruijn32tab), ("math/bits.deBruijn64tab", laid_math_bits_deBruijn64tab), ("internal/strconv.uint64pow10", laid_internal_strconv_uint64pow10), ("headrace/page.table", laid_headrace_page_table)] }
def SorterPlansSaid : Prop := sorterPlansRow.holds Tryz.pinned (OpenSpec.ofChange sorterPlansSpec)

/-- ITS FALSE NEIGHBOUR: 'it returns false'. Refute it at one input. -/
def sorterPlansWrong : ChangeSpec := { name := "sorterPlans", fn := fun _ => fun
  | [d1, d2, d3, d4, d5] => { results := [.lit (.bool false)], args := [d1, d2, d3, d4, d5] }
  | _ => none }
def SorterPlansWrongFalsely : Prop := sorterPlansRow.holds Tryz.pinned (OpenSpec.ofChange sorterPlansWrong)

/-- 'headracelaw10.SorterErrs': WHATEVER THE INPUT: true; the input reads as it did. -/
def sorterErrsSpec : ChangeSpec := { name := "sorterErrs", fn := fun _ => fun
  | [d1, d2, d3] => { results := [.lit (.bool true)], args := [d1, d2, d3] }
  | _ => none }
def sorterErrsRow : OpenClaim := { program := "ytnefioccdkmegaagreatdoor", sum := "f4fa2e3fa442d06474d159147d6df0a1b63dedcf50621be72b94c0d060b4a1ae", func := "headrace/headracelaw10.SorterErrs", spec := "sorterErrs", inPlace := ["math.Float64frombits", "math.Float64bits", "slices.overlaps[headrace/files.file]"], unfollowed := true, recurses := true, named := ["internal/strconv.uint64pow10", "math/bits.deBruijn32tab", "math/bits.deBruijn64tab", "headrace/page.table"], apart := false, laid := [("math/bits.deBruijn32tab", laid_math_bits_deBruijn32tab), ("math/bits.deBruijn64tab", laid_math_bits_deBruijn64tab), ("internal/strconv.uint64pow10", laid_internal_strconv_uint64pow10), ("headrace/page.table", laid_headrace_page_table)] }
def SorterErrsSaid : Prop := sorterErrsRow.holds Tryz.pinned (OpenSpec.ofChange sorterErrsSpec)

/-- ITS FALSE NEIGHBOUR: 'it returns false'. Refute it at one input. -/
def sorterErrsWrong : ChangeSpec := { name := "sorterErrs", fn := fun _ => fun
  | [d1, d2, d3] => { results := [.lit (.bool false)], args := [d1, d2, d3] }
  | _ => none }
def SorterErrsWrongFalsely : Prop := sorterErrsRow.holds Tryz.pinned (OpenSpec.ofChange sorterErrsWrong)

/-- 'headracelaw10.SorterRuns': WHATEVER THE INPUT: true; the input reads as it did. -/
def sorterRunsSpec : ChangeSpec := { name := "sorterRuns", fn := fun _ => fun
  | [d1, d2, d3, d4] => { results := [.lit (.bool true)], args := [d1, d2, d3, d4] }
  | _ => none }
def sorterRunsRow : OpenClaim := { program := "ytnefioccdkmegaagreatdoor", sum := "f4fa2e3fa442d06474d159147d6df0a1b63dedcf50621be72b94c0d060b4a1ae", func := "headrace/headracelaw10.SorterRuns", spec := "sorterRuns", inPlace := ["math.Float64frombits", "math.Float64bits", "slices.overlaps[headrace/files.file]"], unfollowed := true, recurses := true, named := ["internal/strconv.uint64pow10", "math/bits.deBruijn32tab", "math/bits.deBruijn64tab", "headrace/page.table"], apart := false, laid := [("math/bits.deBruijn32tab", laid_math_bits_deBruijn32tab), ("math/bits.deBruijn64tab", laid_math_bits_deBruijn64tab), ("internal/strconv.uint64pow10", laid_internal_strconv_uint64pow10), ("headrace/page.table", laid_headrace_page_table)] }
def SorterRunsSaid : Prop := sorterRunsRow.holds Tryz.pinned (OpenSpec.ofChange sorterRunsSpec)

/-- ITS FALSE NEIGHBOUR: 'it returns false'. Refute it at one input. -/
def sorterRunsWrong : ChangeSpec := { name := "sorterRuns", fn := fun _ => fun
  | [d1, d2, d3, d4] => { results := [.lit (.bool false)], args := [d1, d2, d3, d4] }
  | _ => none }
def SorterRunsWrongFalsely : Prop := sorterRunsRow.holds Tryz.pinned (OpenSpec.ofChange sorterRunsWrong)

/-- 'headracelaw10.SorterFalls': WHATEVER THE INPUT: true; the input reads as it did. -/
def sorterFallsSpec : ChangeSpec := { name := "sorterFalls", fn := fun _ => fun
  | [d1, d2, d3, d4] => { results := [.lit (.bool true)], args := [d1, d2, d3, d4] }
  | _ => none }
def sorterFallsRow : OpenClaim := { program := "ytnefioccdkmegaagreatdoor", sum := "f4fa2e3fa442d06474d159147d6df0a1b63dedcf50621be72b94c0d060b4a1ae", func := "headrace/headracelaw10.SorterFalls", spec := "sorterFalls", inPlace := ["math.Float64frombits", "math.Float64bits", "slices.overlaps[headrace/files.file]"], unfollowed := true, recurses := true, named := ["internal/strconv.uint64pow10", "math/bits.deBruijn32tab", "math/bits.deBruijn64tab", "headrace/page.table"], apart := false, laid := [("math/bits.deBruijn32tab", laid_math_bits_deBruijn32tab), ("math/bits.deBruijn64tab", laid_math_bits_deBruijn64tab), ("internal/strconv.uint64pow10", laid_internal_strconv_uint64pow10), ("headrace/page.table", laid_headrace_page_table)] }
def SorterFallsSaid : Prop := sorterFallsRow.holds Tryz.pinned (OpenSpec.ofChange sorterFallsSpec)

/-- ITS FALSE NEIGHBOUR: 'it returns false'. Refute it at one input. -/
def sorterFallsWrong : ChangeSpec := { name := "sorterFalls", fn := fun _ => fun
  | [d1, d2, d3, d4] => { results := [.lit (.bool false)], args := [d1, d2, d3, d4] }
  | _ => none }
def SorterFallsWrongFalsely : Prop := sorterFallsRow.holds Tryz.pinned (OpenSpec.ofChange sorterFallsWrong)

/- THE SECOND FORM. 'bulk': how many values and letters a reading holds, each counted each time it is reached (what is shared counts as often as it is met; a slice's spare places count too). A statement '..UptoSaid' is the law's where the arguments, and the package variables that the reading takes, are together of bulk at most 1048576: NARROWER than '..Said'. Prove '..Said' where nothing that the law and all that it calls make is longer than what came in: it says more and counts as full. Else prove '..UptoSaid'. A law counts once. -/
mutual
def uptoBulk {H : Type} : DataW H → Nat
  | .lit (.string bytes) => bytes.length + 1
  | .lit _ => 1
  | .nil => 1
  | .ptr d => uptoBulk d + 1
  | .slice elems spare => uptoBulkAll elems + uptoBulkAll spare + 1
  | .agg parts => uptoBulkAll parts + 1
  | .iface _ d => uptoBulk d + 1
  | .map entries => uptoBulkEntries entries + 1
  | .held _ => 1
def uptoBulkAll {H : Type} : List (DataW H) → Nat
  | [] => 0
  | d :: r => uptoBulk d + uptoBulkAll r
def uptoBulkEntries {H : Type} : List (Lit × DataW H) → Nat
  | [] => 0
  | x :: r => uptoBulkEntry x + uptoBulkEntries r
def uptoBulkEntry {H : Type} : Lit × DataW H → Nat
  | (.string bytes, d) => bytes.length + uptoBulk d + 1
  | (_, d) => uptoBulk d + 1
 end
def uptoSmall : (H : Type) → List (DataW H) → Bool := fun _ ds => decide (uptoBulkAll ds ≤ 1048576)
def OpenSpec.upto (s : _root_.Go.ChangeSpec) : _root_.Go.OpenSpec := { _root_.Go.OpenSpec.ofChange s with cond := some uptoSmall }

/-- 'headracelaw10.SorterSorts', WHERE WHAT IT READS IS OF BULK AT MOST 1048576: true; the input reads as it did. -/
def sorterSortsUptoRow : OpenClaim := { program := "ytnefioccdkmegaagreatdoor", sum := "f4fa2e3fa442d06474d159147d6df0a1b63dedcf50621be72b94c0d060b4a1ae", func := "headrace/headracelaw10.SorterSorts", spec := "sorterSorts", inPlace := ["math.Float64frombits", "math.Float64bits", "slices.overlaps[headrace/files.file]"], unfollowed := true, recurses := true, named := ["internal/strconv.uint64pow10", "math/bits.deBruijn32tab", "math/bits.deBruijn64tab", "headrace/page.table"], apart := false, laid := [("math/bits.deBruijn32tab", laid_math_bits_deBruijn32tab), ("math/bits.deBruijn64tab", laid_math_bits_deBruijn64tab), ("internal/strconv.uint64pow10", laid_internal_strconv_uint64pow10), ("headrace/page.table", laid_headrace_page_table)], narrowed := true }
def SorterSortsUptoSaid : Prop := sorterSortsUptoRow.holds Tryz.pinned (OpenSpec.upto sorterSortsSpec)

/-- 'headracelaw10.SorterFull', WHERE WHAT IT READS IS OF BULK AT MOST 1048576: true; the input reads as it did. -/
def sorterFullUptoRow : OpenClaim := { program := "ytnefioccdkmegaagreatdoor", sum := "f4fa2e3fa442d06474d159147d6df0a1b63dedcf50621be72b94c0d060b4a1ae", func := "headrace/headracelaw10.SorterFull", spec := "sorterFull", inPlace := ["math.Float64frombits", "math.Float64bits", "slices.overlaps[headrace/files.file]"], unfollowed := true, recurses := true, named := ["internal/strconv.uint64pow10", "math/bits.deBruijn32tab", "math/bits.deBruijn64tab", "headrace/page.table"], apart := false, laid := [("math/bits.deBruijn32tab", laid_math_bits_deBruijn32tab), ("math/bits.deBruijn64tab", laid_math_bits_deBruijn64tab), ("internal/strconv.uint64pow10", laid_internal_strconv_uint64pow10), ("headrace/page.table", laid_headrace_page_table)], narrowed := true }
def SorterFullUptoSaid : Prop := sorterFullUptoRow.holds Tryz.pinned (OpenSpec.upto sorterFullSpec)

/-- 'headracelaw10.SorterPlans', WHERE WHAT IT READS IS OF BULK AT MOST 1048576: true; the input reads as it did. -/
def sorterPlansUptoRow : OpenClaim := { program := "ytnefioccdkmegaagreatdoor", sum := "f4fa2e3fa442d06474d159147d6df0a1b63dedcf50621be72b94c0d060b4a1ae", func := "headrace/headracelaw10.SorterPlans", spec := "sorterPlans", inPlace := ["math.Float64frombits", "math.Float64bits", "slices.overlaps[headrace/files.file]"], unfollowed := true, recurses := true, named := ["internal/strconv.uint64pow10", "math/bits.deBruijn32tab", "math/bits.deBruijn64tab", "headrace/page.table"], apart := false, laid := [("math/bits.deBruijn32tab", laid_math_bits_deBruijn32tab), ("math/bits.deBruijn64tab", laid_math_bits_deBruijn64tab), ("internal/strconv.uint64pow10", laid_internal_strconv_uint64pow10), ("headrace/page.table", laid_headrace_page_table)], narrowed := true }
def SorterPlansUptoSaid : Prop := sorterPlansUptoRow.holds Tryz.pinned (OpenSpec.upto sorterPlansSpec)

/-- 'headracelaw10.SorterErrs', WHERE WHAT IT READS IS OF BULK AT MOST 1048576: true; the input reads as it did. -/
def sorterErrsUptoRow : OpenClaim := { program := "ytnefioccdkmegaagreatdoor", sum := "f4fa2e3fa442d06474d159147d6df0a1b63dedcf50621be72b94c0d060b4a1ae", func := "headrace/headracelaw10.SorterErrs", spec := "sorterErrs", inPlace := ["math.Float64frombits", "math.Float64bits", "slices.overlaps[headrace/files.file]"], unfollowed := true, recurses := true, named := ["internal/strconv.uint64pow10", "math/bits.deBruijn32tab", "math/bits.deBruijn64tab", "headrace/page.table"], apart := false, laid := [("math/bits.deBruijn32tab", laid_math_bits_deBruijn32tab), ("math/bits.deBruijn64tab", laid_math_bits_deBruijn64tab), ("internal/strconv.uint64pow10", laid_internal_strconv_uint64pow10), ("headrace/page.table", laid_headrace_page_table)], narrowed := true }
def SorterErrsUptoSaid : Prop := sorterErrsUptoRow.holds Tryz.pinned (OpenSpec.upto sorterErrsSpec)

/-- 'headracelaw10.SorterRuns', WHERE WHAT IT READS IS OF BULK AT MOST 1048576: true; the input reads as it did. -/
def sorterRunsUptoRow : OpenClaim := { program := "ytnefioccdkmegaagreatdoor", sum := "f4fa2e3fa442d06474d159147d6df0a1b63dedcf50621be72b94c0d060b4a1ae", func := "headrace/headracelaw10.SorterRuns", spec := "sorterRuns", inPlace := ["math.Float64frombits", "math.Float64bits", "slices.overlaps[headrace/files.file]"], unfollowed := true, recurses := true, named := ["internal/strconv.uint64pow10", "math/bits.deBruijn32tab", "math/bits.deBruijn64tab", "headrace/page.table"], apart := false, laid := [("math/bits.deBruijn32tab", laid_math_bits_deBruijn32tab), ("math/bits.deBruijn64tab", laid_math_bits_deBruijn64tab), ("internal/strconv.uint64pow10", laid_internal_strconv_uint64pow10), ("headrace/page.table", laid_headrace_page_table)], narrowed := true }
def SorterRunsUptoSaid : Prop := sorterRunsUptoRow.holds Tryz.pinned (OpenSpec.upto sorterRunsSpec)

/-- 'headracelaw10.SorterFalls', WHERE WHAT IT READS IS OF BULK AT MOST 1048576: true; the input reads as it did. -/
def sorterFallsUptoRow : OpenClaim := { program := "ytnefioccdkmegaagreatdoor", sum := "f4fa2e3fa442d06474d159147d6df0a1b63dedcf50621be72b94c0d060b4a1ae", func := "headrace/headracelaw10.SorterFalls", spec := "sorterFalls", inPlace := ["math.Float64frombits", "math.Float64bits", "slices.overlaps[headrace/files.file]"], unfollowed := true, recurses := true, named := ["internal/strconv.uint64pow10", "math/bits.deBruijn32tab", "math/bits.deBruijn64tab", "headrace/page.table"], apart := false, laid := [("math/bits.deBruijn32tab", laid_math_bits_deBruijn32tab), ("math/bits.deBruijn64tab", laid_math_bits_deBruijn64tab), ("internal/strconv.uint64pow10", laid_internal_strconv_uint64pow10), ("headrace/page.table", laid_headrace_page_table)], narrowed := true }
def SorterFallsUptoSaid : Prop := sorterFallsUptoRow.holds Tryz.pinned (OpenSpec.upto sorterFallsSpec)

end Rows
end Go.Proofs.YtnefioccdkmegaaGreatDoor
