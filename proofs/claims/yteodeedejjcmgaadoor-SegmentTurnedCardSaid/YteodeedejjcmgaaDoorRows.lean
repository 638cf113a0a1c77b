/-
  NARROWER THAN 'FOR EVERY INPUT', by the rows' own cells (each row's printed sentence says how): SegmentWrites: laid · SegmentChunks: laid · SegmentTurned: laid · SegmentPrunes: laid · SegmentParted: laid · SegmentScans: laid · SegmentNil: laid.
  DERIVED. THE GIVEN ROWS OF THIS SEAT. 7 by the template 'for every input the law returns true; each argument reads behind the call as it read before'; 0 by the template 'total and deterministic' (their statements: YteodeedejjcmgaaDoorTotals.lean).
  GIVEN WITH THE SEED: the statements are not yours to turn. If you find one false, say at which input.
  Laid BY PROGRAM, IN A SANDBOX (cutbox-rows.mjs): the forced cells as the released guide's own fill.sh prints them over the translation 146965c3c01a836b… (all of the seat's roots in one cut). By AI agents, Wed Nov 11 2026. No macro, syntax, notation, axiom, sorry.
-/
import Derived.Test.YteodeedejjcmgaaDoorChecked
import GoSem.Claim
import GoSem.ClaimJoined
import GoSem.ClaimMapViews
import Derived.JoinedTies
import Derived.KernelRfl
namespace Go.Proofs.YteodeedejjcmgaaDoor
/- THE CELL 'sum', in the pinned program and in every row, IS THE sha256 OF THE DUMP (.gsa) THAT YteodeedejjcmgaaDoorProg.lean LOADS. Nothing in Lean hashes anything: it is a label: what it is worth is what the hold of that sum in a sandbox is worth. -/
noncomputable def Tryd.pinned : Pinned := { name := "yteodeedejjcmgaadoor", sum := "146965c3c01a836b21d2752cf8d11a3148da25b6a550f125b235b05d2e0b8155", checked := Tryd.checked }
namespace Rows
def none {H : Type} : Left H := { results := [], args := [] }

/- WHAT THE LISTED PACKAGE-LEVEL VARIABLES READ AS WHEN THE CALL BEGINS. Each datum BY PROGRAM (the guide's laid-datum.mjs) off the statement by which the dump's own 'gosem.cut.vars' lays the variable. In a bare row this is a premise. The card (YteodeedejjcmgaaDoorCards.lean) ties it to the program's text. -/
def laid_headrace_page_table {H : Type} : DataW H := .agg [.lit (.int .u32 0), .lit (.int .u32 498536548), .lit (.int .u32 997073096), .lit (.int .u32 651767980), .lit (.int .u32 1994146192), .lit (.int .u32 1802195444), .lit (.int .u32 1303535960), .lit (.int .u32 1342533948), .lit (.int .u32 3988292384), .lit (.int .u32 4027552580), .lit (.int .u32 3604390888), .lit (.int .u32 3412177804), .lit (.int .u32 2607071920), .lit (.int .u32 2262029012), .lit (.int .u32 2685067896), .lit (.int .u32 3183342108)]

/-- 'headracelaw07.SegmentWrites': WHATEVER THE INPUT: true; the input reads as it did. -/
def segmentWritesSpec : ChangeSpec := { name := "segmentWrites", fn := fun _ => fun
  | [d1, d2] => { results := [.lit (.bool true)], args := [d1, d2] }
  | _ => none }
def segmentWritesRow : OpenClaim := { program := "yteodeedejjcmgaadoor", sum := "146965c3c01a836b21d2752cf8d11a3148da25b6a550f125b235b05d2e0b8155", func := "headrace/headracelaw07.SegmentWrites", spec := "segmentWrites", inPlace := ["math.Float64frombits", "math.Float64bits"], unfollowed := true, recurses := true, named := ["headrace/page.table"], apart := false, laid := [("headrace/page.table", laid_headrace_page_table)] }
def SegmentWritesSaid : Prop := segmentWritesRow.holds Tryd.pinned (OpenSpec.ofChange segmentWritesSpec)

/-- ITS FALSE NEIGHBOUR: 'it returns false'. Refute it at one input. -/
def segmentWritesWrong : ChangeSpec := { name := "segmentWrites", fn := fun _ => fun
  | [d1, d2] => { results := [.lit (.bool false)], args := [d1, d2] }
  | _ => none }
def SegmentWritesWrongFalsely : Prop := segmentWritesRow.holds Tryd.pinned (OpenSpec.ofChange segmentWritesWrong)

/-- 'headracelaw07.SegmentChunks': WHATEVER THE INPUT: true; the input reads as it did. -/
def segmentChunksSpec : ChangeSpec := { name := "segmentChunks", fn := fun _ => fun
  | [d1, d2, d3] => { results := [.lit (.bool true)], args := [d1, d2, d3] }
  | _ => none }
def segmentChunksRow : OpenClaim := { program := "yteodeedejjcmgaadoor", sum := "146965c3c01a836b21d2752cf8d11a3148da25b6a550f125b235b05d2e0b8155", func := "headrace/headracelaw07.SegmentChunks", spec := "segmentChunks", inPlace := ["math.Float64frombits", "math.Float64bits"], unfollowed := true, recurses := true, named := ["headrace/page.table"], apart := false, laid := [("headrace/page.table", laid_headrace_page_table)] }
def SegmentChunksSaid : Prop := segmentChunksRow.holds Tryd.pinned (OpenSpec.ofChange segmentChunksSpec)

/-- ITS FALSE NEIGHBOUR: 'it returns false'. Refute it at one input. -/
def segmentChunksWrong : ChangeSpec := { name := "segmentChunks", fn := fun _ => fun
  | [d1, d2, d3] => { results := [.lit (.bool false)], args := [d1, d2, d3] }
  | _ => none }
def SegmentChunksWrongFalsely : Prop := segmentChunksRow.holds Tryd.pinned (OpenSpec.ofChange segmentChunksWrong)

/-- 'headracelaw07.SegmentTurned': WHATEVER THE INPUT: true; the input reads as it did. -/
def segmentTurnedSpec : ChangeSpec := { name := "segmentTurned", fn := fun _ => fun
  | [d1, d2, d3] => { results := [.lit (.bool true)], args := [d1, d2, d3] }
  | _ => none }
def segmentTurnedRow : OpenClaim := { program := "yteodeedejjcmgaadoor", sum := "146965c3c01a836b21d2752cf8d11a3148da25b6a550f125b235b05d2e0b8155", func := "headrace/headracelaw07.SegmentTurned", spec := "segmentTurned", inPlace := ["math.Float64frombits", "math.Float64bits"], unfollowed := true, recurses := true, named := ["headrace/page.table"], apart := false, laid := [("headrace/page.table", laid_headrace_page_table)] }
def SegmentTurnedSaid : Prop := segmentTurnedRow.holds Tryd.pinned (OpenSpec.ofChange segmentTurnedSpec)

/-- ITS FALSE NEIGHBOUR: 'it returns false'. Refute it at one input. -/
def segmentTurnedWrong : ChangeSpec := { name := "segmentTurned", fn := fun _ => fun
  | [d1, d2, d3] => { results := [.lit (.bool false)], args := [d1, d2, d3] }
  | _ => none }
def SegmentTurnedWrongFalsely : Prop := segmentTurnedRow.holds Tryd.pinned (OpenSpec.ofChange segmentTurnedWrong)

/-- 'headracelaw07.SegmentPrunes': WHATEVER THE INPUT: true; the input reads as it did. -/
def segmentPrunesSpec : ChangeSpec := { name := "segmentPrunes", fn := fun _ => fun
  | [d1, d2, d3] => { results := [.lit (.bool true)], args := [d1, d2, d3] }
  | _ => none }
def segmentPrunesRow : OpenClaim := { program := "yteodeedejjcmgaadoor", sum := "146965c3c01a836b21d2752cf8d11a3148da25b6a550f125b235b05d2e0b8155", func := "headrace/headracelaw07.SegmentPrunes", spec := "segmentPrunes", inPlace := ["math.Float64frombits", "math.Float64bits"], unfollowed := true, recurses := true, named := ["headrace/page.table"], apart := false, laid := [("headrace/page.table", laid_headrace_page_table)] }
def SegmentPrunesSaid : Prop := segmentPrunesRow.holds Tryd.pinned (OpenSpec.ofChange segmentPrunesSpec)

/-- ITS FALSE NEIGHBOUR: 'it returns false'. Refute it at one input. -/
def segmentPrunesWrong : ChangeSpec := { name := "segmentPrunes", fn := fun _ => fun
  | [d1, d2, d3] => { results := [.lit (.bool false)], args := [d1, d2, d3] }
  | _ => none }
def SegmentPrunesWrongFalsely : Prop := segmentPrunesRow.holds Tryd.pinned (OpenSpec.ofChange segmentPrunesWrong)

/-- 'headracelaw07.SegmentParted': WHATEVER THE INPUT: true; the input reads as it did. -/
def segmentPartedSpec : ChangeSpec := { name := "segmentParted", fn := fun _ => fun
  | [d1, d2, d3, d4] => { results := [.lit (.bool true)], args := [d1, d2, d3, d4] }
  | _ => none }
def segmentPartedRow : OpenClaim := { program := "yteodeedejjcmgaadoor", sum := "146965c3c01a836b21d2752cf8d11a3148da25b6a550f125b235b05d2e0b8155", func := "headrace/headracelaw07.SegmentParted", spec := "segmentParted", inPlace := ["math.Float64frombits", "math.Float64bits"], unfollowed := true, recurses := true, named := ["headrace/page.table"], apart := false, laid := [("headrace/page.table", laid_headrace_page_table)] }
def SegmentPartedSaid : Prop := segmentPartedRow.holds Tryd.pinned (OpenSpec.ofChange segmentPartedSpec)

/-- ITS FALSE NEIGHBOUR: 'it returns false'. Refute it at one input. -/
def segmentPartedWrong : ChangeSpec := { name := "segmentParted", fn := fun _ => fun
  | [d1, d2, d3, d4] => { results := [.lit (.bool false)], args := [d1, d2, d3, d4] }
  | _ => none }
def SegmentPartedWrongFalsely : Prop := segmentPartedRow.holds Tryd.pinned (OpenSpec.ofChange segmentPartedWrong)

/-- 'headracelaw07.SegmentScans': WHATEVER THE INPUT: true; the input reads as it did. -/
def segmentScansSpec : ChangeSpec := { name := "segmentScans", fn := fun _ => fun
  | [d1, d2, d3, d4] => { results := [.lit (.bool true)], args := [d1, d2, d3, d4] }
  | _ => none }
def segmentScansRow : OpenClaim := { program := "yteodeedejjcmgaadoor", sum := "146965c3c01a836b21d2752cf8d11a3148da25b6a550f125b235b05d2e0b8155", func := "headrace/headracelaw07.SegmentScans", spec := "segmentScans", inPlace := ["math.Float64frombits", "math.Float64bits"], unfollowed := true, recurses := true, named := ["headrace/page.table"], apart := false, laid := [("headrace/page.table", laid_headrace_page_table)] }
def SegmentScansSaid : Prop := segmentScansRow.holds Tryd.pinned (OpenSpec.ofChange segmentScansSpec)

/-- ITS FALSE NEIGHBOUR: 'it returns false'. Refute it at one input. -/
def segmentScansWrong : ChangeSpec := { name := "segmentScans", fn := fun _ => fun
  | [d1, d2, d3, d4] => { results := [.lit (.bool false)], args := [d1, d2, d3, d4] }
  | _ => none }
def SegmentScansWrongFalsely : Prop := segmentScansRow.holds Tryd.pinned (OpenSpec.ofChange segmentScansWrong)

/-- 'headracelaw07.SegmentNil': WHATEVER THE INPUT: true; the input reads as it did. -/
def segmentNilSpec : ChangeSpec := { name := "segmentNil", fn := fun _ => fun
  | [d] => { results := [.lit (.bool true)], args := [d] }
  | _ => none }
def segmentNilRow : OpenClaim := { program := "yteodeedejjcmgaadoor", sum := "146965c3c01a836b21d2752cf8d11a3148da25b6a550f125b235b05d2e0b8155", func := "headrace/headracelaw07.SegmentNil", spec := "segmentNil", inPlace := ["math.Float64frombits", "math.Float64bits"], unfollowed := true, recurses := true, named := ["headrace/page.table"], apart := false, laid := [("headrace/page.table", laid_headrace_page_table)] }
def SegmentNilSaid : Prop := segmentNilRow.holds Tryd.pinned (OpenSpec.ofChange segmentNilSpec)

/-- ITS FALSE NEIGHBOUR: 'it returns false'. Refute it at one input. -/
def segmentNilWrong : ChangeSpec := { name := "segmentNil", fn := fun _ => fun
  | [d] => { results := [.lit (.bool false)], args := [d] }
  | _ => none }
def SegmentNilWrongFalsely : Prop := segmentNilRow.holds Tryd.pinned (OpenSpec.ofChange segmentNilWrong)

/- THE SECOND FORM. 'bulk': how many values and letters a reading holds, each counted each time it is reached (what is shared counts as often as it is met; a slice's spare places count too). A statement '..UptoSaid' is the law's where the arguments, and the package variables that the reading takes, are together of bulk at most 1048576: NARROWER than '..Said'. Prove '..Said' where nothing that the law and all that it calls make is longer than what came in: it says more and counts as full. Else prove '..UptoSaid'. A law counts once. -/
mutual
def uptoBulk {H : Type} : DataW H → Nat
  | .lit (.string bytes) => bytes.length + 1
  | .lit _ => 1
  | .nil => 1
  | .ptr d => uptoBulk d + 1
  | .slice elems spare => uptoBulkAll elems + uptoBulkAll spare + 1
  | .agg parts => uptoBulkAll parts + 1
  | .iface _ d => uptoBulk d + 1
  | .map entries => uptoBulkEntries entries + 1
  | .held _ => 1
def uptoBulkAll {H : Type} : List (DataW H) → Nat
  | [] => 0
  | d :: r => uptoBulk d + uptoBulkAll r
def uptoBulkEntries {H : Type} : List (Lit × DataW H) → Nat
  | [] => 0
  | x :: r => uptoBulkEntry x + uptoBulkEntries r
def uptoBulkEntry {H : Type} : Lit × DataW H → Nat
  | (.string bytes, d) => bytes.length + uptoBulk d + 1
  | (_, d) => uptoBulk d + 1
 end
def uptoSmall : (H : Type) → List (DataW H) → Bool := fun _ ds => decide (uptoBulkAll ds ≤ 1048576)
def OpenSpec.upto (s : _root_.Go.ChangeSpec) : _root_.Go.OpenSpec := { _root_.Go.OpenSpec.ofChange s with cond := some uptoSmall }

/-- 'headracelaw07.SegmentWrites', WHERE WHAT IT READS IS OF BULK AT MOST 1048576: true; the input reads as it did. -/
def segmentWritesUptoRow : OpenClaim := { program := "yteodeedejjcmgaadoor", sum := "146965c3c01a836b21d2752cf8d11a3148da25b6a550f125b235b05d2e0b8155", func := "headrace/headracelaw07.SegmentWrites", spec := "segmentWrites", inPlace := ["math.Float64frombits", "math.Float64bits"], unfollowed := true, recurses := true, named := ["headrace/page.table"], apart := false, laid := [("headrace/page.table", laid_headrace_page_table)], narrowed := true }
def SegmentWritesUptoSaid : Prop := segmentWritesUptoRow.holds Tryd.pinned (OpenSpec.upto segmentWritesSpec)

/-- 'headracelaw07.SegmentChunks', WHERE WHAT IT READS IS OF BULK AT MOST 1048576: true; the input reads as it did. -/
def segmentChunksUptoRow : OpenClaim := { program := "yteodeedejjcmgaadoor", sum := "146965c3c01a836b21d2752cf8d11a3148da25b6a550f125b235b05d2e0b8155", func := "headrace/headracelaw07.SegmentChunks", spec := "segmentChunks", inPlace := ["math.Float64frombits", "math.Float64bits"], unfollowed := true, recurses := true, named := ["headrace/page.table"], apart := false, laid := [("headrace/page.table", laid_headrace_page_table)], narrowed := true }
def SegmentChunksUptoSaid : Prop := segmentChunksUptoRow.holds Tryd.pinned (OpenSpec.upto segmentChunksSpec)

/-- 'headracelaw07.SegmentTurned', WHERE WHAT IT READS IS OF BULK AT MOST 1048576: true; the input reads as it did. -/
def segmentTurnedUptoRow : OpenClaim := { program := "yteodeedejjcmgaadoor", sum := "146965c3c01a836b21d2752cf8d11a3148da25b6a550f125b235b05d2e0b8155", func := "headrace/headracelaw07.SegmentTurned", spec := "segmentTurned", inPlace := ["math.Float64frombits", "math.Float64bits"], unfollowed := true, recurses := true, named := ["headrace/page.table"], apart := false, laid := [("headrace/page.table", laid_headrace_page_table)], narrowed := true }
def SegmentTurnedUptoSaid : Prop := segmentTurnedUptoRow.holds Tryd.pinned (OpenSpec.upto segmentTurnedSpec)

/-- 'headracelaw07.SegmentPrunes', WHERE WHAT IT READS IS OF BULK AT MOST 1048576: true; the input reads as it did. -/
def segmentPrunesUptoRow : OpenClaim := { program := "yteodeedejjcmgaadoor", sum := "146965c3c01a836b21d2752cf8d11a3148da25b6a550f125b235b05d2e0b8155", func := "headrace/headracelaw07.SegmentPrunes", spec := "segmentPrunes", inPlace := ["math.Float64frombits", "math.Float64bits"], unfollowed := true, recurses := true, named := ["headrace/page.table"], apart := false, laid := [("headrace/page.table", laid_headrace_page_table)], narrowed := true }
def SegmentPrunesUptoSaid : Prop := segmentPrunesUptoRow.holds Tryd.pinned (OpenSpec.upto segmentPrunesSpec)

/-- 'headracelaw07.SegmentParted', WHERE WHAT IT READS IS OF BULK AT MOST 1048576: true; the input reads as it did. -/
def segmentPartedUptoRow : OpenClaim := { program := "yteodeedejjcmgaadoor", sum := "146965c3c01a836b21d2752cf8d11a3148da25b6a550f125b235b05d2e0b8155", func := "headrace/headracelaw07.SegmentParted", spec := "segmentParted", inPlace := ["math.Float64frombits", "math.Float64bits"], unfollowed := true, recurses := true, named := ["headrace/page.table"], apart := false, laid := [("headrace/page.table", laid_headrace_page_table)], narrowed := true }
def SegmentPartedUptoSaid : Prop := segmentPartedUptoRow.holds Tryd.pinned (OpenSpec.upto segmentPartedSpec)

/-- 'headracelaw07.SegmentScans', WHERE WHAT IT READS IS OF BULK AT MOST 1048576: true; the input reads as it did. -/
def segmentScansUptoRow : OpenClaim := { program := "yteodeedejjcmgaadoor", sum := "146965c3c01a836b21d2752cf8d11a3148da25b6a550f125b235b05d2e0b8155", func := "headrace/headracelaw07.SegmentScans", spec := "segmentScans", inPlace := ["math.Float64frombits", "math.Float64bits"], unfollowed := true, recurses := true, named := ["headrace/page.table"], apart := false, laid := [("headrace/page.table", laid_headrace_page_table)], narrowed := true }
def SegmentScansUptoSaid : Prop := segmentScansUptoRow.holds Tryd.pinned (OpenSpec.upto segmentScansSpec)

/-- 'headracelaw07.SegmentNil', WHERE WHAT IT READS IS OF BULK AT MOST 1048576: true; the input reads as it did. -/
def segmentNilUptoRow : OpenClaim := { program := "yteodeedejjcmgaadoor", sum := "146965c3c01a836b21d2752cf8d11a3148da25b6a550f125b235b05d2e0b8155", func := "headrace/headracelaw07.SegmentNil", spec := "segmentNil", inPlace := ["math.Float64frombits", "math.Float64bits"], unfollowed := true, recurses := true, named := ["headrace/page.table"], apart := false, laid := [("headrace/page.table", laid_headrace_page_table)], narrowed := true }
def SegmentNilUptoSaid : Prop := segmentNilUptoRow.holds Tryd.pinned (OpenSpec.upto segmentNilSpec)

end Rows
end Go.Proofs.YteodeedejjcmgaaDoor
