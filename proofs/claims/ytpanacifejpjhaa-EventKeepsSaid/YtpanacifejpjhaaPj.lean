/- The library's symMerge, in plain words. -/
import Derived.Test.YtpanacifejpjhaaPi
namespace Go.Proofs.Ytpanacifejpjhaa.P
open Go Go.RowKit Go.Proofs.Ytpanacifejpjhaa.E Go.Proofs.Ytpanacifejpjhaa.M
set_option linter.unusedVariables false

section
variable {α : Type} {lt : α → α → Bool}
theorem ins_left {x : α} : ∀ (P : List α) {Q : List α}, (∀ q ∈ Q, lt x q = true) → ins lt x (P ++ Q) = ins lt x P ++ Q
  | [], [], _ => rfl
  | [], q :: Q, h => by simp [ins, h q List.mem_cons_self]
  | p :: P, Q, h => by
    simp only [List.cons_append, ins]
    split
    · rfl
    · rw [ins_left P h]; rfl
theorem ins_right {x : α} : ∀ {P : List α} (Q : List α), (∀ p ∈ P, lt x p = false) → ins lt x (P ++ Q) = P ++ ins lt x Q
  | [], Q, _ => rfl
  | p :: P, Q, h => by
    simp only [List.cons_append, ins, h p List.mem_cons_self]
    rw [ins_right Q fun q hq => h q (List.mem_cons_of_mem _ hq)]
    rfl
theorem foldl_left : ∀ (X P : List α) {Q : List α}, (∀ x ∈ X, ∀ q ∈ Q, lt x q = true) → X.foldl (fun acc x => ins lt x acc) (P ++ Q) = X.foldl (fun acc x => ins lt x acc) P ++ Q
  | [], P, Q, _ => rfl
  | x :: X, P, Q, h => by
    rw [List.foldl_cons, ins_left P (h x List.mem_cons_self), foldl_left X _ fun y hy => h y (List.mem_cons_of_mem _ hy)]
    rfl
theorem foldl_right : ∀ (Y : List α) {P : List α} (Q : List α), (∀ y ∈ Y, ∀ p ∈ P, lt y p = false) → Y.foldl (fun acc x => ins lt x acc) (P ++ Q) = P ++ Y.foldl (fun acc x => ins lt x acc) Q
  | [], P, Q, _ => rfl
  | y :: Y, P, Q, h => by
    rw [List.foldl_cons, ins_right Q (h y List.mem_cons_self), foldl_right Y _ fun z hz => h z (List.mem_cons_of_mem _ hz)]
    rfl

/-- two rows, each cut in two, so that what is cut off in front goes ahead of all that is behind -/
theorem sortL_four {X1 Y1 X2 Y2 : List α} (h1 : ∀ y ∈ Y1, ∀ x ∈ X1, lt y x = false) (h2 : ∀ x ∈ X2, ∀ y ∈ Y1, lt x y = true) (h3 : ∀ y ∈ Y2, ∀ x ∈ X1 ++ X2, lt y x = false) :
    sortL lt (X1 ++ Y1 ++ X2 ++ Y2) = sortL lt (X1 ++ X2) ++ sortL lt (Y1 ++ Y2) := by
  unfold sortL
  rw [List.foldl_append, List.foldl_append, List.foldl_append, List.foldl_append (l := X1) (l' := X2), List.foldl_append (l := Y1) (l' := Y2)]
  have e1 := foldl_right (lt := lt) Y1 (P := X1.foldl (fun acc x => ins lt x acc) []) [] (fun y hy p hp => h1 y hy p (by simpa using (foldl_mem p X1 []).1 hp))
  rw [List.append_nil] at e1
  rw [e1, foldl_left X2 _ (fun x hx q hq => h2 x hx q (by simpa using (foldl_mem q Y1 []).1 hq)), foldl_right Y2 _ fun y hy p hp => h3 y hy p ?_]
  rcases (foldl_mem p X2 _).1 hp with h | h
  · exact List.mem_append.2 (.inl (by simpa using (foldl_mem p X1 []).1 h))
  · exact List.mem_append.2 (.inr h)
end

theorem half_eq (x y : Nat) (h : x + y < 2 ^ 60) : IntKind.i64.wrap (ishr .u64 (IntKind.u64.wrap (IntKind.i64.wrap ((x : Int) + (y : Int)))) 1) = (((x + y) / 2 : Nat) : Int) := by
  have e : ishr .u64 (((x + y : Nat) : Int)) 1 = (((x + y) / 2 : Nat) : Int) := by
    unfold ishr
    rw [show (1 : Int).toNat = 1 from rfl, show IntKind.u64.bits = 64 from rfl, show min 1 64 = 1 from rfl, Int.fdiv_eq_ediv_of_nonneg _ (by decide)]
    rfl
  rw [w64 (n := (x : Int) + (y : Int)) (by omega) (by omega), show (x : Int) + (y : Int) = ((x + y : Nat) : Int) by omega, IntWalk.u64_in _ ⟨by omega, by omega⟩, e, w64 (by omega) (by omega)]

/-- a search by halves -/
theorem halves {b : Int × Int → Option ((Int × Int) ⊕ Int)} (f : Nat → Bool) (i0 j0 : Nat) (hij : i0 ≤ j0)
    (hend : ∀ i : Nat, b ((i : Int), (i : Int)) = some (.inr (i : Int)))
    (hstep : ∀ i j : Nat, i0 ≤ i → i < j → j ≤ j0 → b ((i : Int), (j : Int)) = some (.inl (if f ((i + j) / 2) = true then ((((i + j) / 2 + 1 : Nat) : Int), (j : Int)) else ((i : Int), (((i + j) / 2 : Nat) : Int))))) :
    ∃ t : Nat, loop b ((i0 : Int), (j0 : Int)) = some (t : Int) ∧ i0 ≤ t ∧ t ≤ j0 ∧ (i0 < t → f (t - 1) = true) ∧ (t < j0 → f t = false) := by
  obtain ⟨t, ht, n, rfl, h⟩ := loop_good (b := b) (s := ((i0 : Int), (j0 : Int))) (fun q => ∃ i j : Nat, q = ((i : Int), (j : Int)) ∧ i0 ≤ i ∧ i ≤ j ∧ j ≤ j0 ∧ (i0 < i → f (i - 1) = true) ∧ (j < j0 → f j = false)) (fun q => (q.2 - q.1).toNat)
    (fun t => ∃ n : Nat, t = n ∧ i0 ≤ n ∧ n ≤ j0 ∧ (i0 < n → f (n - 1) = true) ∧ (n < j0 → f n = false)) ⟨i0, j0, rfl, Nat.le_refl _, hij, Nat.le_refl _, fun h => by omega, fun h => by omega⟩ (by
      rintro q ⟨i, j, rfl, h1, h2, h3, h4, h5⟩
      rcases Nat.lt_or_ge i j with hlt | hge
      · rw [hstep i j h1 hlt h3]
        cases hf : f ((i + j) / 2) with
        | true => exact .inl ⟨_, by rw [if_pos rfl], ⟨(i + j) / 2 + 1, j, rfl, by omega, by omega, h3, fun _ => by simpa using hf, h5⟩, by simp only; omega⟩
        | false => exact .inl ⟨_, by rw [if_neg (by simp)], ⟨i, (i + j) / 2, rfl, h1, by omega, by omega, h4, fun _ => hf⟩, by simp only; omega⟩
      · obtain rfl : i = j := by omega
        rw [hend]
        exact .inr ⟨_, rfl, i, rfl, h1, h3, h4, h5⟩)
  exact ⟨n, ht, h⟩
end Go.Proofs.Ytpanacifejpjhaa.P
