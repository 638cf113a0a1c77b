/- EventSorts and EventKeeps, in plain words. -/
import Derived.Test.YtpanacifejpjhaaPm
namespace Go.Proofs.Ytpanacifejpjhaa.P
open Go Go.RowKit Go.Proofs.Ytpanacifejpjhaa.E Go.Proofs.Ytpanacifejpjhaa.M
set_option linter.unusedVariables false

theorem EventSorts (a0 : List S30) (h : gL 48 g30 a0) : law06_EventSorts a0 = some true := by
  have hj : law06_EventSorts_j1 a0 true = some true := by
    unfold law06_EventSorts_j1; rw [if_pos rfl, awake6_eq]; rfl
  unfold law06_EventSorts
  rw [awake6_eq]
  simp only [Option.bind_some]
  rw [if_neg (by simp)]
  by_cases hl : 60 < a0.length
  · rw [show decide (60 < (a0.length : Int)) = true by simp; omega, hj]
  rw [show decide (60 < (a0.length : Int)) = false by simp; omega]
  unfold law06_EventSorts_j1
  rw [if_neg (by simp), evSort_eq a0 (by omega)]
  simp only [Option.bind_some]
  rw [Sort_eq a0 (by omega)]
  simp only [Option.bind_some]
  rw [SameAll_self _ (by rw [sortL_length]; omega)]
  rfl

theorem EventKeeps (a0 : List S30) (h : gL 48 g30 a0) : law06_EventKeeps a0 = some true := by
  have hj : law06_EventKeeps_j1 a0 true = some true := by
    unfold law06_EventKeeps_j1; rw [if_pos rfl, awake6_eq]; rfl
  unfold law06_EventKeeps
  rw [awake6_eq]
  simp only [Option.bind_some]
  rw [if_neg (by simp)]
  by_cases hl : 60 < a0.length
  · rw [show decide (60 < (a0.length : Int)) = true by simp; omega, hj]
  rw [show decide (60 < (a0.length : Int)) = false by simp; omega]
  unfold law06_EventKeeps_j1
  rw [if_neg (by simp), chk_pos (by simp; omega), evSort_eq a0 (by omega)]
  simp only [Option.bind_some]
  have hml : (sortL bef a0).length ≤ 300 := by rw [sortL_length]; omega
  obtain ⟨t, ht, _⟩ := loop_good (b := fun s : List S30 × Int => law06_EventKeeps_l1 s.1 s.2) (s := (sortL bef a0, 0)) (fun s => ∃ n : Nat, s.2 = n ∧ s.1.length ≤ 300) (fun s => (s.1.length - s.2).toNat) (fun _ => True) ⟨0, rfl, hml⟩ (by
    rintro ⟨l, q⟩ ⟨n, hq, hll⟩
    simp only at hq hll
    subst hq
    show (∃ s', law06_EventKeeps_l1 l (n : Int) = some (.inl s') ∧ _) ∨ ∃ t, law06_EventKeeps_l1 l (n : Int) = some (.inr t) ∧ _
    unfold law06_EventKeeps_l1
    by_cases hnl : n < l.length
    · rw [if_pos (by simp; omega), at_int rfl (List.getElem?_eq_getElem hnl)]
      simp only [Option.bind_some]
      refine .inl ⟨_, rfl, ⟨n + 1, ?_, by simpa using hll⟩, ?_⟩
      · simp only; rw [w64 (by omega) (by omega)]; omega
      · simp only [List.length_set, w64 (n := (n : Int) + 1) (by omega) (by omega)]; omega
    · rw [if_neg (by simp; omega)]
      exact .inr ⟨_, rfl, trivial⟩)
  rw [ht]
  simp only [Option.bind_some]
  unfold law06_EventKeeps_x1_0 law06_EventKeeps_b1
  rw [SameAll_self _ (by omega)]
  rfl
end Go.Proofs.Ytpanacifejpjhaa.P
