/- What arguments of struct types hold. -/
import Derived.Test.YtgjhiojkkjaloaaEh
import Derived.Test.YtgjhiojkkjaloaaKd
import Derived.Test.YtgjhiojkkjaloaaGr
namespace Go.Proofs.Ytgjhiojkkjaloaa.M
open Go Go.RowKit Go.Proofs.Ytgjhiojkkjaloaa.E
set_option linter.unusedVariables false
set_option linter.unusedSimpArgs false

def g45 (x : S45) : Prop := (gI .u8) x.f0 ∧ (gI .u8) x.f1 ∧ (gI .u8) x.f2 ∧ gS x.f3 ∧ (gL 1 (gI .u8)) x.f4 ∧ (gI .i64) x.f5 ∧ (gL 8 (gI .i64)) x.f6
theorem op45 {W : World} : Opens Try.prog W 45 (kz45 (HeapZ W) W) g45 := by
  intro H enc held fuel cs x h hw
  obtain ⟨ys, n, _, rfl, hl, hyl, hf⟩ := DataW.trod_struct Try.underlying45 h
  rw [ce45] at hl
  match cs, hl with
  | [c0, c1, c2, c3, c4, c5, c6], _ =>
    obtain ⟨a0, h0, q0⟩ := fld Try.underlying45 hf hyl hw 0 rfl (o := 0) (c := 1) (t := 5) rfl rfl ce5 (opI Try.underlying5)
    cases (show [c0] = [.int .u8 a0] from h0)
    obtain ⟨a1, h1, q1⟩ := fld Try.underlying45 hf hyl hw 1 rfl (o := 1) (c := 1) (t := 5) rfl rfl ce5 (opI Try.underlying5)
    cases (show [c1] = [.int .u8 a1] from h1)
    obtain ⟨a2, h2, q2⟩ := fld Try.underlying45 hf hyl hw 2 rfl (o := 2) (c := 1) (t := 5) rfl rfl ce5 (opI Try.underlying5)
    cases (show [c2] = [.int .u8 a2] from h2)
    obtain ⟨a3, h3, q3⟩ := fld Try.underlying45 hf hyl hw 3 rfl (o := 3) (c := 1) (t := 9) rfl rfl ce9 (opS Try.underlying9)
    cases (show [c3] = [str a3] from h3)
    obtain ⟨a4, h4, q4⟩ := fld Try.underlying45 hf hyl hw 4 rfl (o := 4) (c := 1) (t := 22) rfl rfl ce22 (opSl Try.underlying22 ce5 (Nat.succ_pos _) by5 (opI Try.underlying5))
    obtain ⟨A4, n4, m4, e4, i4⟩ := h4
    cases (show [c4] = [.slice A4 n4 m4] from e4)
    obtain ⟨a5, h5, q5⟩ := fld Try.underlying45 hf hyl hw 5 rfl (o := 5) (c := 1) (t := 3) rfl rfl ce3 (opI Try.underlying3)
    cases (show [c5] = [.int .i64 a5] from h5)
    obtain ⟨a6, h6, q6⟩ := fld Try.underlying45 hf hyl hw 6 rfl (o := 6) (c := 1) (t := 40) rfl rfl ce40 (opSl Try.underlying40 ce3 (Nat.succ_pos _) by3 (opI Try.underlying3))
    obtain ⟨A6, n6, m6, e6, i6⟩ := h6
    cases (show [c6] = [.slice A6 n6 m6] from e6)
    exact ⟨⟨a0, a1, a2, a3, a4, a5, a6⟩, ⟨_, _, _, _, _, _, rfl, i4, i6⟩, q0, q1, q2, q3, q4, q5, q6⟩
end Go.Proofs.Ytgjhiojkkjaloaa.M
