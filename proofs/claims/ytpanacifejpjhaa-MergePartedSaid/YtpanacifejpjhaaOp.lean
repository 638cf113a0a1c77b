/- What arguments of struct types hold. -/
import Derived.Test.YtpanacifejpjhaaEh
import Derived.Test.YtpanacifejpjhaaKd
import Derived.Test.YtpanacifejpjhaaGr
namespace Go.Proofs.Ytpanacifejpjhaa.M
open Go Go.RowKit Go.Proofs.Ytpanacifejpjhaa.E
set_option linter.unusedVariables false
set_option linter.unusedSimpArgs false

def g30 (x : S30) : Prop := (gI .u64) x.f0 ∧ (gI .i64) x.f1 ∧ (gI .i64) x.f2 ∧ gS x.f3 ∧ gF x.f4
theorem op30 {W : World} : Opens Try.prog W 30 k30 g30 := by
  intro H enc held fuel cs x h hw
  obtain ⟨ys, n, _, rfl, hl, hyl, hf⟩ := DataW.trod_struct Try.underlying30 h
  rw [ce30] at hl
  match cs, hl with
  | [c0, c1, c2, c3, c4], _ =>
    obtain ⟨a0, h0, q0⟩ := fld Try.underlying30 hf hyl hw 0 rfl (o := 0) (c := 1) (t := 27) rfl rfl ce27 (opI Try.underlying27)
    cases (show [c0] = [.int .u64 a0] from h0)
    obtain ⟨a1, h1, q1⟩ := fld Try.underlying30 hf hyl hw 1 rfl (o := 1) (c := 1) (t := 3) rfl rfl ce3 (opI Try.underlying3)
    cases (show [c1] = [.int .i64 a1] from h1)
    obtain ⟨a2, h2, q2⟩ := fld Try.underlying30 hf hyl hw 2 rfl (o := 2) (c := 1) (t := 2) rfl rfl ce2 (opI Try.underlying2)
    cases (show [c2] = [.int .i64 a2] from h2)
    obtain ⟨a3, h3, q3⟩ := fld Try.underlying30 hf hyl hw 3 rfl (o := 3) (c := 1) (t := 9) rfl rfl ce9 (opS Try.underlying9)
    cases (show [c3] = [str a3] from h3)
    obtain ⟨a4, h4, q4⟩ := fld Try.underlying30 hf hyl hw 4 rfl (o := 4) (c := 1) (t := 28) rfl rfl ce28 (opF Try.underlying28)
    cases (show [c4] = [.float .f64 a4] from h4)
    exact ⟨⟨a0, a1, a2, a3, a4⟩, rfl, q0, q1, q2, q3, q4⟩
end Go.Proofs.Ytpanacifejpjhaa.M
