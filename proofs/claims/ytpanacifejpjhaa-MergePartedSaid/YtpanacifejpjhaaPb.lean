/- The events' order; the document's sorting, in plain words. -/
import Derived.Test.YtpanacifejpjhaaPa
import Derived.Test.YtpanacifejpjhaaDb
namespace Go.Proofs.Ytpanacifejpjhaa.P
open Go Go.RowKit Go.Proofs.Ytpanacifejpjhaa.E Go.Proofs.Ytpanacifejpjhaa.M
set_option linter.unusedVariables false

theorem at_nat {α : Type} (xs : List α) (n : Nat) : at_ xs (n : Int) = xs[n]? := by simp [at_]
theorem at_int {α : Type} {xs : List α} {i : Int} {n : Nat} {x : α} (hi : i = n) (h : xs[n]? = some x) : at_ xs i = some x := by subst hi; rw [at_nat, h]
theorem cut_nat {α : Type} {xs : List α} {l u : Nat} (h : l ≤ u) (hu : u ≤ xs.length) : cut_ xs (l : Int) (u : Int) = some ((xs.take u).drop l) := by
  unfold cut_; rw [if_pos (by omega)]; simp
theorem chk_pos {α : Type} {p : Prop} [Decidable p] {x : Option α} (h : p) : chk p x = x := if_pos h
theorem w64 {n : Int} (h : -9223372036854775808 ≤ n) (h' : n ≤ 9223372036854775807) : IntKind.i64.wrap n = n := IntWalk.i64_in n ⟨h, h'⟩

/-- a loop whose states are told by a number -/
theorem loop_at {σ τ : Type} {b : σ → Option (σ ⊕ τ)} (f : Nat → σ) {t : τ} : ∀ (n : Nat) (i : Nat), (∀ k, i ≤ k → k < i + n → b (f k) = some (.inl (f (k + 1)))) → b (f (i + n)) = some (.inr t) → loop b (f i) = some t
  | 0, i, _, he => loop_end he
  | n + 1, i, hs, he => (loop_nxt (hs i (Nat.le_refl _) (by omega))).trans (loop_at f n (i + 1) (fun k h1 h2 => hs k (by omega) (by omega)) (by rw [show i + 1 + n = i + (n + 1) by omega]; exact he))
theorem loop_to {σ τ : Type} {b : σ → Option (σ ⊕ τ)} (f : Nat → σ) {t : τ} (n : Nat) (hs : ∀ k, k < n → b (f k) = some (.inl (f (k + 1)))) (he : b (f n) = some (.inr t)) : loop b (f 0) = some t :=
  loop_at f n 0 (fun k _ h => hs k (by omega)) (by simpa using he)

def bef (x y : S30) : Bool := if x.f3 == y.f3 then (if x.f2 == y.f2 then decide (x.f0 < y.f0) else decide (x.f2 < y.f2)) else Op.bytesLess x.f3 y.f3

theorem Before_eq (x y : S30) : r06_Before x y = some (bef x y) := by
  unfold r06_Before bef
  by_cases h : (x.f3 == y.f3) = true <;> by_cases h2 : (x.f2 == y.f2) = true <;> simp [h, h2, bne]
theorem Less_eq (x y : S30) : event_Less x y = some (bef x y) := Before_eq x y

theorem bef_swo : SWO bef := by
  refine ⟨fun a => by simp [bef], fun a b c h1 h2 => ?_, fun a b c h => ?_⟩
  · unfold bef at *
    by_cases k1 : a.f3 = b.f3 <;> by_cases k2 : b.f3 = c.f3
    · by_cases t1 : a.f2 = b.f2 <;> by_cases t2 : b.f2 = c.f2 <;> by_cases t3 : a.f2 = c.f2 <;> (try simp_all) <;> (try omega)
    · simp_all
    · simp_all
    · simp only [beq_iff_eq, k1, k2, if_false] at h1 h2
      have h3 := bl_swo.trans _ _ _ h1 h2
      have : a.f3 ≠ c.f3 := fun e => by rw [e, bl_swo.irr] at h3; cases h3
      simp [this, h3]
  · unfold bef at *
    by_cases k : a.f3 = c.f3
    · by_cases k1 : a.f3 = b.f3
      · have k2 : b.f3 = c.f3 := k1.symm.trans k
        by_cases t1 : a.f2 = b.f2 <;> by_cases t2 : b.f2 = c.f2 <;> by_cases t3 : a.f2 = c.f2 <;> (try simp_all) <;> (try omega)
      · have k2 : b.f3 ≠ c.f3 := fun e => k1 (k.trans e.symm)
        simp only [beq_iff_eq, k1, k2, if_false]
        cases h1 : Op.bytesLess a.f3 b.f3 with
        | true => exact .inl rfl
        | false =>
          refine .inr ?_
          cases h2 : Op.bytesLess b.f3 c.f3 with
          | true => rfl
          | false => exact absurd (bl_tot _ _ h1 (by rw [k]; exact h2)) k1
    · simp only [beq_iff_eq, k, if_false] at h
      rcases bl_swo.neg _ b.f3 _ h with h1 | h1
      · have : a.f3 ≠ b.f3 := fun e => by rw [e, bl_swo.irr] at h1; cases h1
        exact .inl (by simp [this, h1])
      · have : b.f3 ≠ c.f3 := fun e => by rw [e, bl_swo.irr] at h1; cases h1
        exact .inr (by simp [this, h1])

theorem sort_in (s : List S30) (hs : Srt bef s) (a0 : List S30) (i : Nat) (x : S30) (hx : a0[i]? = some x) (hb : s.length + 1 ≤ 140737488355328 / 48) (hi : i < 9223372036854775807) :
    r06_Sort_l1 a0 s (i : Int) = some (.inl (ins bef x s, ((i + 1 : Nat) : Int))) := by
  have hil := (List.getElem?_eq_some_iff.1 hx).1
  unfold r06_Sort_l1
  rw [if_pos (by simp; omega)]
  obtain ⟨t, ht, n, rfl, hn, hlo, hhi⟩ := loop_good (b := fun q => r06_Sort_l2 a0 s (i : Int) q) (s := (s.length : Int))
    (fun q => ∃ n : Nat, q = n ∧ n ≤ s.length ∧ ∀ j y, n ≤ j → s[j]? = some y → bef x y = true) (fun q => q.toNat)
    (fun q => ∃ n : Nat, q = n ∧ n ≤ s.length ∧ (∀ y, 0 < n → s[n - 1]? = some y → bef x y = false) ∧ ∀ j y, n ≤ j → s[j]? = some y → bef x y = true)
    ⟨s.length, rfl, Nat.le_refl _, fun j y hj hy => by have := (List.getElem?_eq_some_iff.1 hy).1; omega⟩ (by
      rintro q ⟨n, rfl, hn, hhi⟩
      unfold r06_Sort_l2
      by_cases h0 : 0 < n
      · rw [if_pos (by simp; omega), w64 (by omega) (by omega), show at_ a0 (i : Int) = some x from at_int rfl hx]
        have hm : s[n - 1]? = some (s[n - 1]'(by omega)) := List.getElem?_eq_getElem (by omega)
        rw [at_int (n := n - 1) (by omega) hm]
        simp only [Option.bind_some, Before_eq]
        unfold r06_Sort_j1
        cases hb : bef x (s[n - 1]'(by omega)) with
        | true =>
          refine .inl ⟨((n - 1 : Nat) : Int), by simp; rw [w64 (by omega) (by omega)]; omega, ⟨n - 1, rfl, by omega, fun j y hj hy => ?_⟩, by omega⟩
          rcases Nat.lt_or_ge j n with hjn | hjn
          · rw [show j = n - 1 by omega, hm] at hy; cases hy; exact hb
          · exact hhi j y hjn hy
        | false => exact .inr ⟨(n : Int), by simp, n, rfl, hn, fun y _ hy => by rw [hm] at hy; cases hy; exact hb, hhi⟩
      · rw [if_neg (by simp; omega)]
        unfold r06_Sort_j1
        exact .inr ⟨(n : Int), by simp, n, rfl, hn, fun y h => absurd h h0, hhi⟩)
  rw [ht]
  simp only [Option.bind_some]
  unfold r06_Sort_x2_2 r06_Sort_b2
  have c1 := cut_nat (xs := s) (l := 0) (u := n) (Nat.zero_le _) hn
  have c2 := cut_nat (xs := s) (l := n) (u := s.length) hn (Nat.le_refl _)
  rw [show ((0 : Nat) : Int) = 0 from rfl] at c1
  rw [c1, c2, at_int rfl hx]
  simp only [Option.bind_some, List.drop_zero, List.take_length]
  rw [chk_pos (by simp; omega), chk_pos (by simp; omega), chk_pos (by simp; omega), w64 (by omega) (by omega), ins_at bef_swo hs hn hlo hhi]
  rfl

theorem Sort_eq (a0 : List S30) (h : a0.length ≤ 140737488355328 / 48) : r06_Sort a0 = some (sortL bef a0) := by
  unfold r06_Sort
  have := loop_to (b := fun s : List S30 × Int => r06_Sort_l1 a0 s.1 s.2) (fun k => (sortL bef (a0.take k), (k : Int))) (t := sortL bef a0) a0.length (fun k hk => by
    have hx : a0[k]? = some (a0[k]'hk) := List.getElem?_eq_getElem hk
    rw [sort_in _ (sortL_srt bef_swo _) a0 k _ hx (by rw [sortL_length]; simp; omega) (by omega), ← sortL_append]
    simp) (by
    show r06_Sort_l1 a0 (sortL bef (a0.take a0.length)) (a0.length : Int) = _
    unfold r06_Sort_l1
    rw [if_neg (by simp)]
    simp)
  rw [show (([], 0) : List S30 × Int) = (fun k => (sortL bef (a0.take k), (k : Int))) 0 from rfl, this]
  rfl
end Go.Proofs.Ytpanacifejpjhaa.P
