/-
  No cell of these rows narrows 'for every input' (looked for: loops, veiled, ifaces, maps, wideKeys, modest, calm, conditions, laid).
  DERIVED. THE GIVEN ROWS OF THIS SEAT. 7 by the template 'for every input the law returns true; each argument reads behind the call as it read before'; 0 by the template 'total and deterministic' (their statements: YthokgnonmcgkcaaTotals.lean).
  GIVEN WITH THE SEED: the statements are not yours to turn. If you find one false, say at which input.
  Laid BY PROGRAM, IN A SANDBOX (cutbox-rows.mjs): the forced cells as the released guide's own fill.sh prints them over the translation 7c79b9d9b44dd4f5… (all of the seat's roots in one cut). By AI agents, Wed Nov 11 2026. No macro, syntax, notation, axiom, sorry.
-/
import Derived.Test.YthokgnonmcgkcaaChecked
import GoSem.Claim
import GoSem.ClaimJoined
import GoSem.ClaimMapViews
import Derived.JoinedTies
import Derived.KernelRfl
namespace Go.Proofs.Ythokgnonmcgkcaa
/- THE CELL 'sum', in the pinned program and in every row, IS THE sha256 OF THE DUMP (.gsa) THAT YthokgnonmcgkcaaProg.lean LOADS. Nothing in Lean hashes anything: it is a label: what it is worth is what the hold of that sum in a sandbox is worth. -/
noncomputable def Try.pinned : Pinned := { name := "ythokgnonmcgkcaa", sum := "7c79b9d9b44dd4f51d8fad4f6fa9c78f0407e704a0961f47b250a76753ebac87", checked := Try.checked }
namespace Rows
def none {H : Type} : Left H := { results := [], args := [] }

/-- 'headracelaw03.ColumnTries': WHATEVER THE INPUT: true; the input reads as it did. -/
def columnTriesSpec : ChangeSpec := { name := "columnTries", fn := fun _ => fun
  | [d1, d2, d3] => { results := [.lit (.bool true)], args := [d1, d2, d3] }
  | _ => none }
def columnTriesRow : OpenClaim := { program := "ythokgnonmcgkcaa", sum := "7c79b9d9b44dd4f51d8fad4f6fa9c78f0407e704a0961f47b250a76753ebac87", func := "headrace/headracelaw03.ColumnTries", spec := "columnTries", unfollowed := true, recurses := true, apart := false }
def ColumnTriesSaid : Prop := columnTriesRow.holds Try.pinned (OpenSpec.ofChange columnTriesSpec)

/-- ITS FALSE NEIGHBOUR: 'it returns false'. Refute it at one input. -/
def columnTriesWrong : ChangeSpec := { name := "columnTries", fn := fun _ => fun
  | [d1, d2, d3] => { results := [.lit (.bool false)], args := [d1, d2, d3] }
  | _ => none }
def ColumnTriesWrongFalsely : Prop := columnTriesRow.holds Try.pinned (OpenSpec.ofChange columnTriesWrong)

/-- 'headracelaw03.ColumnInts': WHATEVER THE INPUT: true; the input reads as it did. -/
def columnIntsSpec : ChangeSpec := { name := "columnInts", fn := fun _ => fun
  | [d] => { results := [.lit (.bool true)], args := [d] }
  | _ => none }
def columnIntsRow : OpenClaim := { program := "ythokgnonmcgkcaa", sum := "7c79b9d9b44dd4f51d8fad4f6fa9c78f0407e704a0961f47b250a76753ebac87", func := "headrace/headracelaw03.ColumnInts", spec := "columnInts", unfollowed := true, recurses := true, apart := false }
def ColumnIntsSaid : Prop := columnIntsRow.holds Try.pinned (OpenSpec.ofChange columnIntsSpec)

/-- ITS FALSE NEIGHBOUR: 'it returns false'. Refute it at one input. -/
def columnIntsWrong : ChangeSpec := { name := "columnInts", fn := fun _ => fun
  | [d] => { results := [.lit (.bool false)], args := [d] }
  | _ => none }
def ColumnIntsWrongFalsely : Prop := columnIntsRow.holds Try.pinned (OpenSpec.ofChange columnIntsWrong)

/-- 'headracelaw03.ColumnPacked': WHATEVER THE INPUT: true; the input reads as it did. -/
def columnPackedSpec : ChangeSpec := { name := "columnPacked", fn := fun _ => fun
  | [d1, d2] => { results := [.lit (.bool true)], args := [d1, d2] }
  | _ => none }
def columnPackedRow : OpenClaim := { program := "ythokgnonmcgkcaa", sum := "7c79b9d9b44dd4f51d8fad4f6fa9c78f0407e704a0961f47b250a76753ebac87", func := "headrace/headracelaw03.ColumnPacked", spec := "columnPacked", unfollowed := true, recurses := true, apart := false }
def ColumnPackedSaid : Prop := columnPackedRow.holds Try.pinned (OpenSpec.ofChange columnPackedSpec)

/-- ITS FALSE NEIGHBOUR: 'it returns false'. Refute it at one input. -/
def columnPackedWrong : ChangeSpec := { name := "columnPacked", fn := fun _ => fun
  | [d1, d2] => { results := [.lit (.bool false)], args := [d1, d2] }
  | _ => none }
def ColumnPackedWrongFalsely : Prop := columnPackedRow.holds Try.pinned (OpenSpec.ofChange columnPackedWrong)

/-- 'headracelaw03.ColumnFar': WHATEVER THE INPUT: true; the input reads as it did. -/
def columnFarSpec : ChangeSpec := { name := "columnFar", fn := fun _ => fun
  | [d1, d2] => { results := [.lit (.bool true)], args := [d1, d2] }
  | _ => none }
def columnFarRow : OpenClaim := { program := "ythokgnonmcgkcaa", sum := "7c79b9d9b44dd4f51d8fad4f6fa9c78f0407e704a0961f47b250a76753ebac87", func := "headrace/headracelaw03.ColumnFar", spec := "columnFar", unfollowed := true, recurses := true, apart := false }
def ColumnFarSaid : Prop := columnFarRow.holds Try.pinned (OpenSpec.ofChange columnFarSpec)

/-- ITS FALSE NEIGHBOUR: 'it returns false'. Refute it at one input. -/
def columnFarWrong : ChangeSpec := { name := "columnFar", fn := fun _ => fun
  | [d1, d2] => { results := [.lit (.bool false)], args := [d1, d2] }
  | _ => none }
def ColumnFarWrongFalsely : Prop := columnFarRow.holds Try.pinned (OpenSpec.ofChange columnFarWrong)

/-- 'headracelaw03.ColumnReals': WHATEVER THE INPUT: true; the input reads as it did. -/
def columnRealsSpec : ChangeSpec := { name := "columnReals", fn := fun _ => fun
  | [d] => { results := [.lit (.bool true)], args := [d] }
  | _ => none }
def columnRealsRow : OpenClaim := { program := "ythokgnonmcgkcaa", sum := "7c79b9d9b44dd4f51d8fad4f6fa9c78f0407e704a0961f47b250a76753ebac87", func := "headrace/headracelaw03.ColumnReals", spec := "columnReals", inPlace := ["math.Float64frombits", "math.Float64bits"], unfollowed := true, recurses := true, apart := false }
def ColumnRealsSaid : Prop := columnRealsRow.holds Try.pinned (OpenSpec.ofChange columnRealsSpec)

/-- ITS FALSE NEIGHBOUR: 'it returns false'. Refute it at one input. -/
def columnRealsWrong : ChangeSpec := { name := "columnReals", fn := fun _ => fun
  | [d] => { results := [.lit (.bool false)], args := [d] }
  | _ => none }
def ColumnRealsWrongFalsely : Prop := columnRealsRow.holds Try.pinned (OpenSpec.ofChange columnRealsWrong)

/-- 'headracelaw03.ColumnReads': WHATEVER THE INPUT: true; the input reads as it did. -/
def columnReadsSpec : ChangeSpec := { name := "columnReads", fn := fun _ => fun
  | [d] => { results := [.lit (.bool true)], args := [d] }
  | _ => none }
def columnReadsRow : OpenClaim := { program := "ythokgnonmcgkcaa", sum := "7c79b9d9b44dd4f51d8fad4f6fa9c78f0407e704a0961f47b250a76753ebac87", func := "headrace/headracelaw03.ColumnReads", spec := "columnReads", inPlace := ["math.Float64frombits", "math.Float64bits"], unfollowed := true, recurses := true, apart := false }
def ColumnReadsSaid : Prop := columnReadsRow.holds Try.pinned (OpenSpec.ofChange columnReadsSpec)

/-- ITS FALSE NEIGHBOUR: 'it returns false'. Refute it at one input. -/
def columnReadsWrong : ChangeSpec := { name := "columnReads", fn := fun _ => fun
  | [d] => { results := [.lit (.bool false)], args := [d] }
  | _ => none }
def ColumnReadsWrongFalsely : Prop := columnReadsRow.holds Try.pinned (OpenSpec.ofChange columnReadsWrong)

/-- 'headracelaw03.ColumnTexts': WHATEVER THE INPUT: true; the input reads as it did. -/
def columnTextsSpec : ChangeSpec := { name := "columnTexts", fn := fun _ => fun
  | [d] => { results := [.lit (.bool true)], args := [d] }
  | _ => none }
def columnTextsRow : OpenClaim := { program := "ythokgnonmcgkcaa", sum := "7c79b9d9b44dd4f51d8fad4f6fa9c78f0407e704a0961f47b250a76753ebac87", func := "headrace/headracelaw03.ColumnTexts", spec := "columnTexts", unfollowed := true, recurses := true, apart := false }
def ColumnTextsSaid : Prop := columnTextsRow.holds Try.pinned (OpenSpec.ofChange columnTextsSpec)

/-- ITS FALSE NEIGHBOUR: 'it returns false'. Refute it at one input. -/
def columnTextsWrong : ChangeSpec := { name := "columnTexts", fn := fun _ => fun
  | [d] => { results := [.lit (.bool false)], args := [d] }
  | _ => none }
def ColumnTextsWrongFalsely : Prop := columnTextsRow.holds Try.pinned (OpenSpec.ofChange columnTextsWrong)

/- THE SECOND FORM. 'bulk': how many values and letters a reading holds, each counted each time it is reached (what is shared counts as often as it is met; a slice's spare places count too). A statement '..UptoSaid' is the law's where the arguments, and the package variables that the reading takes, are together of bulk at most 1048576: NARROWER than '..Said'. Prove '..Said' where nothing that the law and all that it calls make is longer than what came in: it says more and counts as full. Else prove '..UptoSaid'. A law counts once. -/
mutual
def uptoBulk {H : Type} : DataW H → Nat
  | .lit (.string bytes) => bytes.length + 1
  | .lit _ => 1
  | .nil => 1
  | .ptr d => uptoBulk d + 1
  | .slice elems spare => uptoBulkAll elems + uptoBulkAll spare + 1
  | .agg parts => uptoBulkAll parts + 1
  | .iface _ d => uptoBulk d + 1
  | .map entries => uptoBulkEntries entries + 1
  | .held _ => 1
def uptoBulkAll {H : Type} : List (DataW H) → Nat
  | [] => 0
  | d :: r => uptoBulk d + uptoBulkAll r
def uptoBulkEntries {H : Type} : List (Lit × DataW H) → Nat
  | [] => 0
  | x :: r => uptoBulkEntry x + uptoBulkEntries r
def uptoBulkEntry {H : Type} : Lit × DataW H → Nat
  | (.string bytes, d) => bytes.length + uptoBulk d + 1
  | (_, d) => uptoBulk d + 1
 end
def uptoSmall : (H : Type) → List (DataW H) → Bool := fun _ ds => decide (uptoBulkAll ds ≤ 1048576)
def OpenSpec.upto (s : _root_.Go.ChangeSpec) : _root_.Go.OpenSpec := { _root_.Go.OpenSpec.ofChange s with cond := some uptoSmall }

/-- 'headracelaw03.ColumnTries', WHERE WHAT IT READS IS OF BULK AT MOST 1048576: true; the input reads as it did. -/
def columnTriesUptoRow : OpenClaim := { program := "ythokgnonmcgkcaa", sum := "7c79b9d9b44dd4f51d8fad4f6fa9c78f0407e704a0961f47b250a76753ebac87", func := "headrace/headracelaw03.ColumnTries", spec := "columnTries", unfollowed := true, recurses := true, apart := false, narrowed := true }
def ColumnTriesUptoSaid : Prop := columnTriesUptoRow.holds Try.pinned (OpenSpec.upto columnTriesSpec)

/-- 'headracelaw03.ColumnInts', WHERE WHAT IT READS IS OF BULK AT MOST 1048576: true; the input reads as it did. -/
def columnIntsUptoRow : OpenClaim := { program := "ythokgnonmcgkcaa", sum := "7c79b9d9b44dd4f51d8fad4f6fa9c78f0407e704a0961f47b250a76753ebac87", func := "headrace/headracelaw03.ColumnInts", spec := "columnInts", unfollowed := true, recurses := true, apart := false, narrowed := true }
def ColumnIntsUptoSaid : Prop := columnIntsUptoRow.holds Try.pinned (OpenSpec.upto columnIntsSpec)

/-- 'headracelaw03.ColumnPacked', WHERE WHAT IT READS IS OF BULK AT MOST 1048576: true; the input reads as it did. -/
def columnPackedUptoRow : OpenClaim := { program := "ythokgnonmcgkcaa", sum := "7c79b9d9b44dd4f51d8fad4f6fa9c78f0407e704a0961f47b250a76753ebac87", func := "headrace/headracelaw03.ColumnPacked", spec := "columnPacked", unfollowed := true, recurses := true, apart := false, narrowed := true }
def ColumnPackedUptoSaid : Prop := columnPackedUptoRow.holds Try.pinned (OpenSpec.upto columnPackedSpec)

/-- 'headracelaw03.ColumnFar', WHERE WHAT IT READS IS OF BULK AT MOST 1048576: true; the input reads as it did. -/
def columnFarUptoRow : OpenClaim := { program := "ythokgnonmcgkcaa", sum := "7c79b9d9b44dd4f51d8fad4f6fa9c78f0407e704a0961f47b250a76753ebac87", func := "headrace/headracelaw03.ColumnFar", spec := "columnFar", unfollowed := true, recurses := true, apart := false, narrowed := true }
def ColumnFarUptoSaid : Prop := columnFarUptoRow.holds Try.pinned (OpenSpec.upto columnFarSpec)

/-- 'headracelaw03.ColumnReals', WHERE WHAT IT READS IS OF BULK AT MOST 1048576: true; the input reads as it did. -/
def columnRealsUptoRow : OpenClaim := { program := "ythokgnonmcgkcaa", sum := "7c79b9d9b44dd4f51d8fad4f6fa9c78f0407e704a0961f47b250a76753ebac87", func := "headrace/headracelaw03.ColumnReals", spec := "columnReals", inPlace := ["math.Float64frombits", "math.Float64bits"], unfollowed := true, recurses := true, apart := false, narrowed := true }
def ColumnRealsUptoSaid : Prop := columnRealsUptoRow.holds Try.pinned (OpenSpec.upto columnRealsSpec)

/-- 'headracelaw03.ColumnReads', WHERE WHAT IT READS IS OF BULK AT MOST 1048576: true; the input reads as it did. -/
def columnReadsUptoRow : OpenClaim := { program := "ythokgnonmcgkcaa", sum := "7c79b9d9b44dd4f51d8fad4f6fa9c78f0407e704a0961f47b250a76753ebac87", func := "headrace/headracelaw03.ColumnReads", spec := "columnReads", inPlace := ["math.Float64frombits", "math.Float64bits"], unfollowed := true, recurses := true, apart := false, narrowed := true }
def ColumnReadsUptoSaid : Prop := columnReadsUptoRow.holds Try.pinned (OpenSpec.upto columnReadsSpec)

/-- 'headracelaw03.ColumnTexts', WHERE WHAT IT READS IS OF BULK AT MOST 1048576: true; the input reads as it did. -/
def columnTextsUptoRow : OpenClaim := { program := "ythokgnonmcgkcaa", sum := "7c79b9d9b44dd4f51d8fad4f6fa9c78f0407e704a0961f47b250a76753ebac87", func := "headrace/headracelaw03.ColumnTexts", spec := "columnTexts", unfollowed := true, recurses := true, apart := false, narrowed := true }
def ColumnTextsUptoSaid : Prop := columnTextsUptoRow.holds Try.pinned (OpenSpec.upto columnTextsSpec)

end Rows
end Go.Proofs.Ythokgnonmcgkcaa
