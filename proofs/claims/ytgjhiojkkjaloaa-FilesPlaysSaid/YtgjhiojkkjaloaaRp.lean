/- The names of the laws' calls. -/
import Derived.Test.YtgjhiojkkjaloaaRj
import Derived.Test.YtgjhiojkkjaloaaDh
import Derived.Test.YtgjhiojkkjaloaaOp
namespace Go.Proofs.Ytgjhiojkkjaloaa.P
open Go Go.RowKit Go.Proofs.Ytgjhiojkkjaloaa.E Go.Proofs.Ytgjhiojkkjaloaa.M
set_option linter.unusedVariables false

theorem u8_of {x : Int} (h : gI .u8 x) : 0 ≤ x ∧ x < 256 := by
  unfold gI Lit.wf at h
  simp only [Bool.and_eq_true, decide_eq_true_eq] at h
  exact ⟨h.1, Int.lt_of_le_of_lt h.2 (by decide)⟩
theorem i64_of {x : Int} (h : gI .i64 x) : -9223372036854775808 ≤ x ∧ x ≤ 9223372036854775807 := by
  unfold gI Lit.wf at h
  simp only [Bool.and_eq_true, decide_eq_true_eq] at h
  exact ⟨Int.le_trans (by decide) h.1, Int.le_trans h.2 (by decide)⟩
theorem names_eq {a : S45} (h : g45 a) : ∃ x y, law05_Act_names a = some (x, y) ∧ x.length < 4611686018427387904 ∧ y.length < 4611686018427387904 := by
  obtain ⟨h0, h1, h2, h3, h4, h5, h6⟩ := h
  have h1 := u8_of h1
  have h2 := u8_of h2
  have h3 : a.f3.length ≤ reachBytes := h3
  unfold reachBytes at h3
  unfold law05_Act_names
  rw [lt_, w64 (by omega) (by omega)]
  have key : ∀ x : Int, 0 ≤ x → ∃ n, at_ [[97], [98], [99, 46, 49], [115, 101, 103, 46, 48, 46, 53], [109, 97, 110, 46, 116, 109, 112], [122, 122], [48], a.f3, []] (x.tmod 9) = some n ∧ n.length < 4611686018427387904 := by
    intro x hx
    obtain ⟨k, hk, hk9⟩ : ∃ k : Nat, x.tmod 9 = k ∧ k < 9 := ⟨(x % 9).toNat, by rw [Int.tmod_eq_emod_of_nonneg hx]; omega, by omega⟩
    rw [hk, at_nat]
    rcases k with _ | _ | _ | _ | _ | _ | _ | _ | _ | k
    · exact ⟨_, rfl, by decide⟩
    · exact ⟨_, rfl, by decide⟩
    · exact ⟨_, rfl, by decide⟩
    · exact ⟨_, rfl, by decide⟩
    · exact ⟨_, rfl, by decide⟩
    · exact ⟨_, rfl, by decide⟩
    · exact ⟨_, rfl, by decide⟩
    · exact ⟨a.f3, rfl, by omega⟩
    · exact ⟨_, rfl, by decide⟩
    · omega
  obtain ⟨x, hx, hxl⟩ := key a.f1 h1.1
  obtain ⟨y, hy, hyl⟩ := key a.f2 h2.1
  refine ⟨x, y, ?_, hxl, hyl⟩
  rw [hx]
  simp only [Option.bind_some]
  rw [lt_, w64 (by omega) (by omega), hy]
  rfl
end Go.Proofs.Ytgjhiojkkjaloaa.P
