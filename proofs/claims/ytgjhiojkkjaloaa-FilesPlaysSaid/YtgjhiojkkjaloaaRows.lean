/-
  No cell of these rows narrows 'for every input' (looked for: loops, veiled, ifaces, maps, wideKeys, modest, calm, conditions, laid).
  DERIVED. THE GIVEN ROWS OF THIS SEAT. 7 by the template 'for every input the law returns true; each argument reads behind the call as it read before'; 0 by the template 'total and deterministic' (their statements: YtgjhiojkkjaloaaTotals.lean).
  GIVEN WITH THE SEED: the statements are not yours to turn. If you find one false, say at which input.
  Laid BY PROGRAM, IN A SANDBOX (cutbox-rows.mjs): the forced cells as the released guide's own fill.sh prints them over the translation 461ff0987a54c044… (all of the seat's roots in one cut). By AI agents, Wed Nov 11 2026. No macro, syntax, notation, axiom, sorry.
-/
import Derived.Test.YtgjhiojkkjaloaaChecked
import GoSem.Claim
import GoSem.ClaimJoined
import GoSem.ClaimMapViews
import Derived.JoinedTies
import Derived.KernelRfl
namespace Go.Proofs.Ytgjhiojkkjaloaa
/- THE CELL 'sum', in the pinned program and in every row, IS THE sha256 OF THE DUMP (.gsa) THAT YtgjhiojkkjaloaaProg.lean LOADS. Nothing in Lean hashes anything: it is a label: what it is worth is what the hold of that sum in a sandbox is worth. -/
noncomputable def Try.pinned : Pinned := { name := "ytgjhiojkkjaloaa", sum := "461ff0987a54c044f3bdfdd59c49a7f9a0f7447bd4398030507f4f38f0c08763", checked := Try.checked }
namespace Rows
def none {H : Type} : Left H := { results := [], args := [] }

/-- 'headracelaw05.FilesKeeps': WHATEVER THE INPUT: true; the input reads as it did. -/
def filesKeepsSpec : ChangeSpec := { name := "filesKeeps", fn := fun _ => fun
  | [d] => { results := [.lit (.bool true)], args := [d] }
  | _ => none }
def filesKeepsRow : OpenClaim := { program := "ytgjhiojkkjaloaa", sum := "461ff0987a54c044f3bdfdd59c49a7f9a0f7447bd4398030507f4f38f0c08763", func := "headrace/headracelaw05.FilesKeeps", spec := "filesKeeps", inPlace := ["slices.overlaps[headrace/files.file]"], unfollowed := true, recurses := true, apart := false }
def FilesKeepsSaid : Prop := filesKeepsRow.holds Try.pinned (OpenSpec.ofChange filesKeepsSpec)

/-- ITS FALSE NEIGHBOUR: 'it returns false'. Refute it at one input. -/
def filesKeepsWrong : ChangeSpec := { name := "filesKeeps", fn := fun _ => fun
  | [d] => { results := [.lit (.bool false)], args := [d] }
  | _ => none }
def FilesKeepsWrongFalsely : Prop := filesKeepsRow.holds Try.pinned (OpenSpec.ofChange filesKeepsWrong)

/-- 'headracelaw05.FilesRoom': WHATEVER THE INPUT: true; the input reads as it did. -/
def filesRoomSpec : ChangeSpec := { name := "filesRoom", fn := fun _ => fun
  | [d1, d2] => { results := [.lit (.bool true)], args := [d1, d2] }
  | _ => none }
def filesRoomRow : OpenClaim := { program := "ytgjhiojkkjaloaa", sum := "461ff0987a54c044f3bdfdd59c49a7f9a0f7447bd4398030507f4f38f0c08763", func := "headrace/headracelaw05.FilesRoom", spec := "filesRoom", inPlace := ["slices.overlaps[headrace/files.file]"], unfollowed := true, recurses := true, apart := false }
def FilesRoomSaid : Prop := filesRoomRow.holds Try.pinned (OpenSpec.ofChange filesRoomSpec)

/-- ITS FALSE NEIGHBOUR: 'it returns false'. Refute it at one input. -/
def filesRoomWrong : ChangeSpec := { name := "filesRoom", fn := fun _ => fun
  | [d1, d2] => { results := [.lit (.bool false)], args := [d1, d2] }
  | _ => none }
def FilesRoomWrongFalsely : Prop := filesRoomRow.holds Try.pinned (OpenSpec.ofChange filesRoomWrong)

/-- 'headracelaw05.FilesSure': WHATEVER THE INPUT: true; the input reads as it did. -/
def filesSureSpec : ChangeSpec := { name := "filesSure", fn := fun _ => fun
  | [d1, d2, d3, d4] => { results := [.lit (.bool true)], args := [d1, d2, d3, d4] }
  | _ => none }
def filesSureRow : OpenClaim := { program := "ytgjhiojkkjaloaa", sum := "461ff0987a54c044f3bdfdd59c49a7f9a0f7447bd4398030507f4f38f0c08763", func := "headrace/headracelaw05.FilesSure", spec := "filesSure", inPlace := ["slices.overlaps[headrace/files.file]"], unfollowed := true, recurses := true, apart := false }
def FilesSureSaid : Prop := filesSureRow.holds Try.pinned (OpenSpec.ofChange filesSureSpec)

/-- ITS FALSE NEIGHBOUR: 'it returns false'. Refute it at one input. -/
def filesSureWrong : ChangeSpec := { name := "filesSure", fn := fun _ => fun
  | [d1, d2, d3, d4] => { results := [.lit (.bool false)], args := [d1, d2, d3, d4] }
  | _ => none }
def FilesSureWrongFalsely : Prop := filesSureRow.holds Try.pinned (OpenSpec.ofChange filesSureWrong)

/-- 'headracelaw05.FilesRising': WHATEVER THE INPUT: true; the input reads as it did. -/
def filesRisingSpec : ChangeSpec := { name := "filesRising", fn := fun _ => fun
  | [d] => { results := [.lit (.bool true)], args := [d] }
  | _ => none }
def filesRisingRow : OpenClaim := { program := "ytgjhiojkkjaloaa", sum := "461ff0987a54c044f3bdfdd59c49a7f9a0f7447bd4398030507f4f38f0c08763", func := "headrace/headracelaw05.FilesRising", spec := "filesRising", inPlace := ["slices.overlaps[headrace/files.file]"], unfollowed := true, recurses := true, apart := false }
def FilesRisingSaid : Prop := filesRisingRow.holds Try.pinned (OpenSpec.ofChange filesRisingSpec)

/-- ITS FALSE NEIGHBOUR: 'it returns false'. Refute it at one input. -/
def filesRisingWrong : ChangeSpec := { name := "filesRising", fn := fun _ => fun
  | [d] => { results := [.lit (.bool false)], args := [d] }
  | _ => none }
def FilesRisingWrongFalsely : Prop := filesRisingRow.holds Try.pinned (OpenSpec.ofChange filesRisingWrong)

/-- 'headracelaw05.FilesArms': WHATEVER THE INPUT: true; the input reads as it did. -/
def filesArmsSpec : ChangeSpec := { name := "filesArms", fn := fun _ => fun
  | [d1, d2] => { results := [.lit (.bool true)], args := [d1, d2] }
  | _ => none }
def filesArmsRow : OpenClaim := { program := "ytgjhiojkkjaloaa", sum := "461ff0987a54c044f3bdfdd59c49a7f9a0f7447bd4398030507f4f38f0c08763", func := "headrace/headracelaw05.FilesArms", spec := "filesArms", inPlace := ["slices.overlaps[headrace/files.file]"], unfollowed := true, recurses := true, apart := false }
def FilesArmsSaid : Prop := filesArmsRow.holds Try.pinned (OpenSpec.ofChange filesArmsSpec)

/-- ITS FALSE NEIGHBOUR: 'it returns false'. Refute it at one input. -/
def filesArmsWrong : ChangeSpec := { name := "filesArms", fn := fun _ => fun
  | [d1, d2] => { results := [.lit (.bool false)], args := [d1, d2] }
  | _ => none }
def FilesArmsWrongFalsely : Prop := filesArmsRow.holds Try.pinned (OpenSpec.ofChange filesArmsWrong)

/-- 'headracelaw05.FilesPlays': WHATEVER THE INPUT: true; the input reads as it did. -/
def filesPlaysSpec : ChangeSpec := { name := "filesPlays", fn := fun _ => fun
  | [d1, d2] => { results := [.lit (.bool true)], args := [d1, d2] }
  | _ => none }
def filesPlaysRow : OpenClaim := { program := "ytgjhiojkkjaloaa", sum := "461ff0987a54c044f3bdfdd59c49a7f9a0f7447bd4398030507f4f38f0c08763", func := "headrace/headracelaw05.FilesPlays", spec := "filesPlays", inPlace := ["slices.overlaps[headrace/files.file]"], unfollowed := true, recurses := true, apart := false }
def FilesPlaysSaid : Prop := filesPlaysRow.holds Try.pinned (OpenSpec.ofChange filesPlaysSpec)

/-- ITS FALSE NEIGHBOUR: 'it returns false'. Refute it at one input. -/
def filesPlaysWrong : ChangeSpec := { name := "filesPlays", fn := fun _ => fun
  | [d1, d2] => { results := [.lit (.bool false)], args := [d1, d2] }
  | _ => none }
def FilesPlaysWrongFalsely : Prop := filesPlaysRow.holds Try.pinned (OpenSpec.ofChange filesPlaysWrong)

/-- 'headracelaw05.FilesNil': WHATEVER THE INPUT: true; the input reads as it did. -/
def filesNilSpec : ChangeSpec := { name := "filesNil", fn := fun _ => fun
  | [d1, d2, d3] => { results := [.lit (.bool true)], args := [d1, d2, d3] }
  | _ => none }
def filesNilRow : OpenClaim := { program := "ytgjhiojkkjaloaa", sum := "461ff0987a54c044f3bdfdd59c49a7f9a0f7447bd4398030507f4f38f0c08763", func := "headrace/headracelaw05.FilesNil", spec := "filesNil", inPlace := ["slices.overlaps[headrace/files.file]"], unfollowed := true, recurses := true, apart := false }
def FilesNilSaid : Prop := filesNilRow.holds Try.pinned (OpenSpec.ofChange filesNilSpec)

/-- ITS FALSE NEIGHBOUR: 'it returns false'. Refute it at one input. -/
def filesNilWrong : ChangeSpec := { name := "filesNil", fn := fun _ => fun
  | [d1, d2, d3] => { results := [.lit (.bool false)], args := [d1, d2, d3] }
  | _ => none }
def FilesNilWrongFalsely : Prop := filesNilRow.holds Try.pinned (OpenSpec.ofChange filesNilWrong)

/- THE SECOND FORM. 'bulk': how many values and letters a reading holds, each counted each time it is reached (what is shared counts as often as it is met; a slice's spare places count too). A statement '..UptoSaid' is the law's where the arguments, and the package variables that the reading takes, are together of bulk at most 1048576: NARROWER than '..Said'. Prove '..Said' where nothing that the law and all that it calls make is longer than what came in: it says more and counts as full. Else prove '..UptoSaid'. A law counts once. -/
mutual
def uptoBulk {H : Type} : DataW H → Nat
  | .lit (.string bytes) => bytes.length + 1
  | .lit _ => 1
  | .nil => 1
  | .ptr d => uptoBulk d + 1
  | .slice elems spare => uptoBulkAll elems + uptoBulkAll spare + 1
  | .agg parts => uptoBulkAll parts + 1
  | .iface _ d => uptoBulk d + 1
  | .map entries => uptoBulkEntries entries + 1
  | .held _ => 1
def uptoBulkAll {H : Type} : List (DataW H) → Nat
  | [] => 0
  | d :: r => uptoBulk d + uptoBulkAll r
def uptoBulkEntries {H : Type} : List (Lit × DataW H) → Nat
  | [] => 0
  | x :: r => uptoBulkEntry x + uptoBulkEntries r
def uptoBulkEntry {H : Type} : Lit × DataW H → Nat
  | (.string bytes, d) => bytes.length + uptoBulk d + 1
  | (_, d) => uptoBulk d + 1
 end
def uptoSmall : (H : Type) → List (DataW H) → Bool := fun _ ds => decide (uptoBulkAll ds ≤ 1048576)
def OpenSpec.upto (s : _root_.Go.ChangeSpec) : _root_.Go.OpenSpec := { _root_.Go.OpenSpec.ofChange s with cond := some uptoSmall }

/-- 'headracelaw05.FilesKeeps', WHERE WHAT IT READS IS OF BULK AT MOST 1048576: true; the input reads as it did. -/
def filesKeepsUptoRow : OpenClaim := { program := "ytgjhiojkkjaloaa", sum := "461ff0987a54c044f3bdfdd59c49a7f9a0f7447bd4398030507f4f38f0c08763", func := "headrace/headracelaw05.FilesKeeps", spec := "filesKeeps", inPlace := ["slices.overlaps[headrace/files.file]"], unfollowed := true, recurses := true, apart := false, narrowed := true }
def FilesKeepsUptoSaid : Prop := filesKeepsUptoRow.holds Try.pinned (OpenSpec.upto filesKeepsSpec)

/-- 'headracelaw05.FilesRoom', WHERE WHAT IT READS IS OF BULK AT MOST 1048576: true; the input reads as it did. -/
def filesRoomUptoRow : OpenClaim := { program := "ytgjhiojkkjaloaa", sum := "461ff0987a54c044f3bdfdd59c49a7f9a0f7447bd4398030507f4f38f0c08763", func := "headrace/headracelaw05.FilesRoom", spec := "filesRoom", inPlace := ["slices.overlaps[headrace/files.file]"], unfollowed := true, recurses := true, apart := false, narrowed := true }
def FilesRoomUptoSaid : Prop := filesRoomUptoRow.holds Try.pinned (OpenSpec.upto filesRoomSpec)

/-- 'headracelaw05.FilesSure', WHERE WHAT IT READS IS OF BULK AT MOST 1048576: true; the input reads as it did. -/
def filesSureUptoRow : OpenClaim := { program := "ytgjhiojkkjaloaa", sum := "461ff0987a54c044f3bdfdd59c49a7f9a0f7447bd4398030507f4f38f0c08763", func := "headrace/headracelaw05.FilesSure", spec := "filesSure", inPlace := ["slices.overlaps[headrace/files.file]"], unfollowed := true, recurses := true, apart := false, narrowed := true }
def FilesSureUptoSaid : Prop := filesSureUptoRow.holds Try.pinned (OpenSpec.upto filesSureSpec)

/-- 'headracelaw05.FilesRising', WHERE WHAT IT READS IS OF BULK AT MOST 1048576: true; the input reads as it did. -/
def filesRisingUptoRow : OpenClaim := { program := "ytgjhiojkkjaloaa", sum := "461ff0987a54c044f3bdfdd59c49a7f9a0f7447bd4398030507f4f38f0c08763", func := "headrace/headracelaw05.FilesRising", spec := "filesRising", inPlace := ["slices.overlaps[headrace/files.file]"], unfollowed := true, recurses := true, apart := false, narrowed := true }
def FilesRisingUptoSaid : Prop := filesRisingUptoRow.holds Try.pinned (OpenSpec.upto filesRisingSpec)

/-- 'headracelaw05.FilesArms', WHERE WHAT IT READS IS OF BULK AT MOST 1048576: true; the input reads as it did. -/
def filesArmsUptoRow : OpenClaim := { program := "ytgjhiojkkjaloaa", sum := "461ff0987a54c044f3bdfdd59c49a7f9a0f7447bd4398030507f4f38f0c08763", func := "headrace/headracelaw05.FilesArms", spec := "filesArms", inPlace := ["slices.overlaps[headrace/files.file]"], unfollowed := true, recurses := true, apart := false, narrowed := true }
def FilesArmsUptoSaid : Prop := filesArmsUptoRow.holds Try.pinned (OpenSpec.upto filesArmsSpec)

/-- 'headracelaw05.FilesPlays', WHERE WHAT IT READS IS OF BULK AT MOST 1048576: true; the input reads as it did. -/
def filesPlaysUptoRow : OpenClaim := { program := "ytgjhiojkkjaloaa", sum := "461ff0987a54c044f3bdfdd59c49a7f9a0f7447bd4398030507f4f38f0c08763", func := "headrace/headracelaw05.FilesPlays", spec := "filesPlays", inPlace := ["slices.overlaps[headrace/files.file]"], unfollowed := true, recurses := true, apart := false, narrowed := true }
def FilesPlaysUptoSaid : Prop := filesPlaysUptoRow.holds Try.pinned (OpenSpec.upto filesPlaysSpec)

/-- 'headracelaw05.FilesNil', WHERE WHAT IT READS IS OF BULK AT MOST 1048576: true; the input reads as it did. -/
def filesNilUptoRow : OpenClaim := { program := "ytgjhiojkkjaloaa", sum := "461ff0987a54c044f3bdfdd59c49a7f9a0f7447bd4398030507f4f38f0c08763", func := "headrace/headracelaw05.FilesNil", spec := "filesNil", inPlace := ["slices.overlaps[headrace/files.file]"], unfollowed := true, recurses := true, apart := false, narrowed := true }
def FilesNilUptoSaid : Prop := filesNilUptoRow.holds Try.pinned (OpenSpec.upto filesNilSpec)

end Rows
end Go.Proofs.Ytgjhiojkkjaloaa
