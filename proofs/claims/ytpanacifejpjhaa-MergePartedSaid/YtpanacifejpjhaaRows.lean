/-
  No cell of these rows narrows 'for every input' (looked for: loops, veiled, ifaces, maps, wideKeys, modest, calm, conditions, laid).
  DERIVED. THE GIVEN ROWS OF THIS SEAT. 7 by the template 'for every input the law returns true; each argument reads behind the call as it read before'; 0 by the template 'total and deterministic' (their statements: YtpanacifejpjhaaTotals.lean).
  GIVEN WITH THE SEED: the statements are not yours to turn. If you find one false, say at which input.
  Laid BY PROGRAM, IN A SANDBOX (cutbox-rows.mjs): the forced cells as the released guide's own fill.sh prints them over the translation 0193f644742023ef… (all of the seat's roots in one cut). By AI agents, Wed Nov 11 2026. No macro, syntax, notation, axiom, sorry.
-/
import Derived.Test.YtpanacifejpjhaaChecked
import GoSem.Claim
import GoSem.ClaimJoined
import GoSem.ClaimMapViews
import Derived.JoinedTies
import Derived.KernelRfl
namespace Go.Proofs.Ytpanacifejpjhaa
/- THE CELL 'sum', in the pinned program and in every row, IS THE sha256 OF THE DUMP (.gsa) THAT YtpanacifejpjhaaProg.lean LOADS. Nothing in Lean hashes anything: it is a label: what it is worth is what the hold of that sum in a sandbox is worth. -/
noncomputable def Try.pinned : Pinned := { name := "ytpanacifejpjhaa", sum := "0193f644742023ef7666edfe11c85c709608ab85f131c47cebcbc0e49b1126b9", checked := Try.checked }
namespace Rows
def none {H : Type} : Left H := { results := [], args := [] }

/-- 'headracelaw09.MergeOrder': WHATEVER THE INPUT: true; the input reads as it did. -/
def mergeOrderSpec : ChangeSpec := { name := "mergeOrder", fn := fun _ => fun
  | [d] => { results := [.lit (.bool true)], args := [d] }
  | _ => none }
def mergeOrderRow : OpenClaim := { program := "ytpanacifejpjhaa", sum := "0193f644742023ef7666edfe11c85c709608ab85f131c47cebcbc0e49b1126b9", func := "headrace/headracelaw09.MergeOrder", spec := "mergeOrder", apart := false }
def MergeOrderSaid : Prop := mergeOrderRow.holds Try.pinned (OpenSpec.ofChange mergeOrderSpec)

/-- ITS FALSE NEIGHBOUR: 'it returns false'. Refute it at one input. -/
def mergeOrderWrong : ChangeSpec := { name := "mergeOrder", fn := fun _ => fun
  | [d] => { results := [.lit (.bool false)], args := [d] }
  | _ => none }
def MergeOrderWrongFalsely : Prop := mergeOrderRow.holds Try.pinned (OpenSpec.ofChange mergeOrderWrong)

/-- 'headracelaw09.MergeParted': WHATEVER THE INPUT: true; the input reads as it did. -/
def mergePartedSpec : ChangeSpec := { name := "mergeParted", fn := fun _ => fun
  | [d1, d2] => { results := [.lit (.bool true)], args := [d1, d2] }
  | _ => none }
def mergePartedRow : OpenClaim := { program := "ytpanacifejpjhaa", sum := "0193f644742023ef7666edfe11c85c709608ab85f131c47cebcbc0e49b1126b9", func := "headrace/headracelaw09.MergeParted", spec := "mergeParted", apart := false }
def MergePartedSaid : Prop := mergePartedRow.holds Try.pinned (OpenSpec.ofChange mergePartedSpec)

/-- ITS FALSE NEIGHBOUR: 'it returns false'. Refute it at one input. -/
def mergePartedWrong : ChangeSpec := { name := "mergeParted", fn := fun _ => fun
  | [d1, d2] => { results := [.lit (.bool false)], args := [d1, d2] }
  | _ => none }
def MergePartedWrongFalsely : Prop := mergePartedRow.holds Try.pinned (OpenSpec.ofChange mergePartedWrong)

/-- 'headracelaw09.MergeRuns': WHATEVER THE INPUT: true; the input reads as it did. -/
def mergeRunsSpec : ChangeSpec := { name := "mergeRuns", fn := fun _ => fun
  | [d] => { results := [.lit (.bool true)], args := [d] }
  | _ => none }
def mergeRunsRow : OpenClaim := { program := "ytpanacifejpjhaa", sum := "0193f644742023ef7666edfe11c85c709608ab85f131c47cebcbc0e49b1126b9", func := "headrace/headracelaw09.MergeRuns", spec := "mergeRuns", inPlace := ["math.Float64bits"], apart := false }
def MergeRunsSaid : Prop := mergeRunsRow.holds Try.pinned (OpenSpec.ofChange mergeRunsSpec)

/-- ITS FALSE NEIGHBOUR: 'it returns false'. Refute it at one input. -/
def mergeRunsWrong : ChangeSpec := { name := "mergeRuns", fn := fun _ => fun
  | [d] => { results := [.lit (.bool false)], args := [d] }
  | _ => none }
def MergeRunsWrongFalsely : Prop := mergeRunsRow.holds Try.pinned (OpenSpec.ofChange mergeRunsWrong)

/-- 'headracelaw09.MergeKeeps': WHATEVER THE INPUT: true; the input reads as it did. -/
def mergeKeepsSpec : ChangeSpec := { name := "mergeKeeps", fn := fun _ => fun
  | [d] => { results := [.lit (.bool true)], args := [d] }
  | _ => none }
def mergeKeepsRow : OpenClaim := { program := "ytpanacifejpjhaa", sum := "0193f644742023ef7666edfe11c85c709608ab85f131c47cebcbc0e49b1126b9", func := "headrace/headracelaw09.MergeKeeps", spec := "mergeKeeps", inPlace := ["math.Float64bits"], apart := false }
def MergeKeepsSaid : Prop := mergeKeepsRow.holds Try.pinned (OpenSpec.ofChange mergeKeepsSpec)

/-- ITS FALSE NEIGHBOUR: 'it returns false'. Refute it at one input. -/
def mergeKeepsWrong : ChangeSpec := { name := "mergeKeeps", fn := fun _ => fun
  | [d] => { results := [.lit (.bool false)], args := [d] }
  | _ => none }
def MergeKeepsWrongFalsely : Prop := mergeKeepsRow.holds Try.pinned (OpenSpec.ofChange mergeKeepsWrong)

/-- 'headracelaw06.EventSorts': WHATEVER THE INPUT: true; the input reads as it did. -/
def eventSortsSpec : ChangeSpec := { name := "eventSorts", fn := fun _ => fun
  | [d] => { results := [.lit (.bool true)], args := [d] }
  | _ => none }
def eventSortsRow : OpenClaim := { program := "ytpanacifejpjhaa", sum := "0193f644742023ef7666edfe11c85c709608ab85f131c47cebcbc0e49b1126b9", func := "headrace/headracelaw06.EventSorts", spec := "eventSorts", inPlace := ["math.Float64bits"], unfollowed := true, recurses := true, apart := false }
def EventSortsSaid : Prop := eventSortsRow.holds Try.pinned (OpenSpec.ofChange eventSortsSpec)

/-- ITS FALSE NEIGHBOUR: 'it returns false'. Refute it at one input. -/
def eventSortsWrong : ChangeSpec := { name := "eventSorts", fn := fun _ => fun
  | [d] => { results := [.lit (.bool false)], args := [d] }
  | _ => none }
def EventSortsWrongFalsely : Prop := eventSortsRow.holds Try.pinned (OpenSpec.ofChange eventSortsWrong)

/-- 'headracelaw06.EventKeeps': WHATEVER THE INPUT: true; the input reads as it did. -/
def eventKeepsSpec : ChangeSpec := { name := "eventKeeps", fn := fun _ => fun
  | [d] => { results := [.lit (.bool true)], args := [d] }
  | _ => none }
def eventKeepsRow : OpenClaim := { program := "ytpanacifejpjhaa", sum := "0193f644742023ef7666edfe11c85c709608ab85f131c47cebcbc0e49b1126b9", func := "headrace/headracelaw06.EventKeeps", spec := "eventKeeps", inPlace := ["math.Float64bits"], unfollowed := true, recurses := true, apart := false }
def EventKeepsSaid : Prop := eventKeepsRow.holds Try.pinned (OpenSpec.ofChange eventKeepsSpec)

/-- ITS FALSE NEIGHBOUR: 'it returns false'. Refute it at one input. -/
def eventKeepsWrong : ChangeSpec := { name := "eventKeeps", fn := fun _ => fun
  | [d] => { results := [.lit (.bool false)], args := [d] }
  | _ => none }
def EventKeepsWrongFalsely : Prop := eventKeepsRow.holds Try.pinned (OpenSpec.ofChange eventKeepsWrong)

/-- 'headracelaw06.EventForms': WHATEVER THE INPUT: true; the input reads as it did. -/
def eventFormsSpec : ChangeSpec := { name := "eventForms", fn := fun _ => fun
  | [d1, d2, d3] => { results := [.lit (.bool true)], args := [d1, d2, d3] }
  | _ => none }
def eventFormsRow : OpenClaim := { program := "ytpanacifejpjhaa", sum := "0193f644742023ef7666edfe11c85c709608ab85f131c47cebcbc0e49b1126b9", func := "headrace/headracelaw06.EventForms", spec := "eventForms", inPlace := ["math.Float64frombits", "math.Float64bits"], unfollowed := true, recurses := true, apart := false }
def EventFormsSaid : Prop := eventFormsRow.holds Try.pinned (OpenSpec.ofChange eventFormsSpec)

/-- ITS FALSE NEIGHBOUR: 'it returns false'. Refute it at one input. -/
def eventFormsWrong : ChangeSpec := { name := "eventForms", fn := fun _ => fun
  | [d1, d2, d3] => { results := [.lit (.bool false)], args := [d1, d2, d3] }
  | _ => none }
def EventFormsWrongFalsely : Prop := eventFormsRow.holds Try.pinned (OpenSpec.ofChange eventFormsWrong)

/- THE SECOND FORM. 'bulk': how many values and letters a reading holds, each counted each time it is reached (what is shared counts as often as it is met; a slice's spare places count too). A statement '..UptoSaid' is the law's where the arguments, and the package variables that the reading takes, are together of bulk at most 1048576: NARROWER than '..Said'. Prove '..Said' where nothing that the law and all that it calls make is longer than what came in: it says more and counts as full. Else prove '..UptoSaid'. A law counts once. -/
mutual
def uptoBulk {H : Type} : DataW H → Nat
  | .lit (.string bytes) => bytes.length + 1
  | .lit _ => 1
  | .nil => 1
  | .ptr d => uptoBulk d + 1
  | .slice elems spare => uptoBulkAll elems + uptoBulkAll spare + 1
  | .agg parts => uptoBulkAll parts + 1
  | .iface _ d => uptoBulk d + 1
  | .map entries => uptoBulkEntries entries + 1
  | .held _ => 1
def uptoBulkAll {H : Type} : List (DataW H) → Nat
  | [] => 0
  | d :: r => uptoBulk d + uptoBulkAll r
def uptoBulkEntries {H : Type} : List (Lit × DataW H) → Nat
  | [] => 0
  | x :: r => uptoBulkEntry x + uptoBulkEntries r
def uptoBulkEntry {H : Type} : Lit × DataW H → Nat
  | (.string bytes, d) => bytes.length + uptoBulk d + 1
  | (_, d) => uptoBulk d + 1
 end
def uptoSmall : (H : Type) → List (DataW H) → Bool := fun _ ds => decide (uptoBulkAll ds ≤ 1048576)
def OpenSpec.upto (s : _root_.Go.ChangeSpec) : _root_.Go.OpenSpec := { _root_.Go.OpenSpec.ofChange s with cond := some uptoSmall }

/-- 'headracelaw09.MergeOrder', WHERE WHAT IT READS IS OF BULK AT MOST 1048576: true; the input reads as it did. -/
def mergeOrderUptoRow : OpenClaim := { program := "ytpanacifejpjhaa", sum := "0193f644742023ef7666edfe11c85c709608ab85f131c47cebcbc0e49b1126b9", func := "headrace/headracelaw09.MergeOrder", spec := "mergeOrder", apart := false, narrowed := true }
def MergeOrderUptoSaid : Prop := mergeOrderUptoRow.holds Try.pinned (OpenSpec.upto mergeOrderSpec)

/-- 'headracelaw09.MergeParted', WHERE WHAT IT READS IS OF BULK AT MOST 1048576: true; the input reads as it did. -/
def mergePartedUptoRow : OpenClaim := { program := "ytpanacifejpjhaa", sum := "0193f644742023ef7666edfe11c85c709608ab85f131c47cebcbc0e49b1126b9", func := "headrace/headracelaw09.MergeParted", spec := "mergeParted", apart := false, narrowed := true }
def MergePartedUptoSaid : Prop := mergePartedUptoRow.holds Try.pinned (OpenSpec.upto mergePartedSpec)

/-- 'headracelaw09.MergeRuns', WHERE WHAT IT READS IS OF BULK AT MOST 1048576: true; the input reads as it did. -/
def mergeRunsUptoRow : OpenClaim := { program := "ytpanacifejpjhaa", sum := "0193f644742023ef7666edfe11c85c709608ab85f131c47cebcbc0e49b1126b9", func := "headrace/headracelaw09.MergeRuns", spec := "mergeRuns", inPlace := ["math.Float64bits"], apart := false, narrowed := true }
def MergeRunsUptoSaid : Prop := mergeRunsUptoRow.holds Try.pinned (OpenSpec.upto mergeRunsSpec)

/-- 'headracelaw09.MergeKeeps', WHERE WHAT IT READS IS OF BULK AT MOST 1048576: true; the input reads as it did. -/
def mergeKeepsUptoRow : OpenClaim := { program := "ytpanacifejpjhaa", sum := "0193f644742023ef7666edfe11c85c709608ab85f131c47cebcbc0e49b1126b9", func := "headrace/headracelaw09.MergeKeeps", spec := "mergeKeeps", inPlace := ["math.Float64bits"], apart := false, narrowed := true }
def MergeKeepsUptoSaid : Prop := mergeKeepsUptoRow.holds Try.pinned (OpenSpec.upto mergeKeepsSpec)

/-- 'headracelaw06.EventSorts', WHERE WHAT IT READS IS OF BULK AT MOST 1048576: true; the input reads as it did. -/
def eventSortsUptoRow : OpenClaim := { program := "ytpanacifejpjhaa", sum := "0193f644742023ef7666edfe11c85c709608ab85f131c47cebcbc0e49b1126b9", func := "headrace/headracelaw06.EventSorts", spec := "eventSorts", inPlace := ["math.Float64bits"], unfollowed := true, recurses := true, apart := false, narrowed := true }
def EventSortsUptoSaid : Prop := eventSortsUptoRow.holds Try.pinned (OpenSpec.upto eventSortsSpec)

/-- 'headracelaw06.EventKeeps', WHERE WHAT IT READS IS OF BULK AT MOST 1048576: true; the input reads as it did. -/
def eventKeepsUptoRow : OpenClaim := { program := "ytpanacifejpjhaa", sum := "0193f644742023ef7666edfe11c85c709608ab85f131c47cebcbc0e49b1126b9", func := "headrace/headracelaw06.EventKeeps", spec := "eventKeeps", inPlace := ["math.Float64bits"], unfollowed := true, recurses := true, apart := false, narrowed := true }
def EventKeepsUptoSaid : Prop := eventKeepsUptoRow.holds Try.pinned (OpenSpec.upto eventKeepsSpec)

/-- 'headracelaw06.EventForms', WHERE WHAT IT READS IS OF BULK AT MOST 1048576: true; the input reads as it did. -/
def eventFormsUptoRow : OpenClaim := { program := "ytpanacifejpjhaa", sum := "0193f644742023ef7666edfe11c85c709608ab85f131c47cebcbc0e49b1126b9", func := "headrace/headracelaw06.EventForms", spec := "eventForms", inPlace := ["math.Float64frombits", "math.Float64bits"], unfollowed := true, recurses := true, apart := false, narrowed := true }
def EventFormsUptoSaid : Prop := eventFormsUptoRow.holds Try.pinned (OpenSpec.upto eventFormsSpec)

end Rows
end Go.Proofs.Ytpanacifejpjhaa
