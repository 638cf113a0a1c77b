/- The law ColumnTries: what is tried comes to an end as the document's reader does. -/
import Derived.Test.YthokgnonmcgkcaaQp
import Derived.Test.YthokgnonmcgkcaaDh
namespace Go.Proofs.Ythokgnonmcgkcaa.P
open Go Go.RowKit Go.Proofs.Ythokgnonmcgkcaa.E Go.Proofs.Ythokgnonmcgkcaa.M
set_option linter.unusedVariables false

def stuck (x : Int) (xs : List Int) : Prop :=
  (x.tmod 4 = 0 ∧ pU (IntKind.u64.wrap (x * x)) xs = none) ∨ (x.tmod 4 = 1 ∧ pI xs = none) ∨ (x.tmod 4 = 2 ∧ pT (IntKind.i64.wrap x) xs = none) ∨ (x.tmod 4 ≠ 0 ∧ x.tmod 4 ≠ 1 ∧ x.tmod 4 ≠ 2 ∧ pB xs = none)

theorem tries_step {B a1 : List Int} (a5 : Bool) (hBs : Bs B) (hB : B.length < 1099511627776) (ha : a1.length ≤ 30) {p i : Nat} {x : Int} (hp : p ≤ B.length) (hx : a1[i]? = some x) (h8 : 0 ≤ x ∧ x < 256) :
    (∃ q : Nat, q ≤ B.length ∧ law03_ColumnTries_1_l1 a1 a5 (B.drop p) B (p : Int) true (i : Int) (i : Int) = some (.inl (B.drop q, B, (q : Int), true, ((i + 1 : Nat) : Int), ((i + 1 : Nat) : Int)))) ∨
    (stuck x (B.drop p) ∧ ∃ s, law03_ColumnTries_1_l1 a1 a5 (B.drop p) B (p : Int) true (i : Int) (i : Int) = some (.inr (.inr (.inr (s, a1, ⟨B, (p : Int)⟩, true, (i : Int), a5))))) := by
  have hil : i < a1.length := by
    rcases Nat.lt_or_ge i a1.length with h | h
    · exact h
    · rw [List.getElem?_eq_none h] at hx; cases hx
  have hb2 : ∀ (r : List Int) (q : Nat), law03_ColumnTries_1_b2 (i : Int) (i : Int) r B (q : Int) true = some (.inl (r, B, (q : Int), true, ((i + 1 : Nat) : Int), ((i + 1 : Nat) : Int))) := by
    intro r q
    unfold law03_ColumnTries_1_b2
    rw [lt_, w64 (by omega) (by omega), lt_]
    rfl
  have hBd := hBs.drop p
  have hdl : (B.drop p).length < 9223372036854775808 := by rw [List.length_drop]; omega
  unfold law03_ColumnTries_1_l1 stuck
  rw [if_pos (by simp only [decide_eq_true_eq]; omega), at_int rfl hx]
  simp only [Option.bind_some, lt_]
  rw [u64w (n := x) (by omega) (by omega)]
  by_cases c0 : x.tmod 4 = 0
  · rw [if_pos (by simpa using c0)]
    rcases (Uint_is (IntKind.u64.wrap (x * x)) hBd).cases with ⟨v, r, h1, h2⟩ | ⟨h1, s, h2⟩
    · rcases (rUint_is (IntKind.u64.wrap (x * x)) hBs hB hp).cases with ⟨v', r', q, g1, g2, g3, g4⟩ | ⟨g1, _⟩
      · rw [h1] at g1
        cases g1
        rw [h2]
        simp only [Option.bind_some, s_inl]
        rw [g2]
        simp only [Option.bind_some]
        rw [if_pos (by simp), hb2]
        exact .inl ⟨q, g3, by rw [g4]⟩
      · rw [h1] at g1; cases g1
    · rw [h2]
      exact .inr ⟨.inl ⟨c0, h1⟩, s, rfl⟩
  rw [if_neg (by simpa using c0)]
  by_cases c1 : x.tmod 4 = 1
  · rw [if_pos (by simpa using c1)]
    rcases (Int_is hBd).cases with ⟨v, r, h1, h2⟩ | ⟨h1, s, h2⟩
    · rcases (rInt_is hBs hB hp).cases with ⟨v', r', q, g1, g2, g3, g4⟩ | ⟨g1, _⟩
      · rw [h1] at g1
        cases g1
        rw [h2]
        simp only [Option.bind_some, s_inl]
        rw [g2]
        simp only [Option.bind_some]
        rw [if_pos (by simp), hb2]
        exact .inl ⟨q, g3, by rw [g4]⟩
      · rw [h1] at g1; cases g1
    · rw [h2]
      exact .inr ⟨.inr (.inl ⟨c1, h1⟩), s, rfl⟩
  rw [if_neg (by simpa using c1)]
  by_cases c2 : x.tmod 4 = 2
  · rw [if_pos (by simpa using c2)]
    rcases (Text_is (IntKind.i64.wrap x) hBd hdl).cases with ⟨v, r, h1, h2⟩ | ⟨h1, s, h2⟩
    · rcases (rText_is (IntKind.i64.wrap x) hBs hB hp).cases with ⟨v', r', q, g1, g2, g3, g4⟩ | ⟨g1, _⟩
      · rw [h1] at g1
        cases g1
        rw [h2]
        simp only [Option.bind_some, s_inl]
        rw [g2]
        simp only [Option.bind_some]
        rw [if_pos (by simp), hb2]
        exact .inl ⟨q, g3, by rw [g4]⟩
      · rw [h1] at g1; cases g1
    · rw [h2]
      exact .inr ⟨.inr (.inr (.inl ⟨c2, h1⟩)), s, rfl⟩
  rw [if_neg (by simpa using c2)]
  rcases (Byte_is (B.drop p)).cases with ⟨v, r, h1, h2⟩ | ⟨h1, s, h2⟩
  · rcases (rByte_is B hp hB).cases with ⟨v', r', q, g1, g2, g3, g4⟩ | ⟨g1, _⟩
    · rw [h1] at g1
      cases g1
      rw [h2]
      simp only [Option.bind_some, s_inl]
      rw [g2]
      simp only [Option.bind_some]
      rw [if_pos (by simp), hb2]
      exact .inl ⟨q, g3, by rw [g4]⟩
    · rw [h1] at g1; cases g1
  · rw [h2]
    exact .inr ⟨.inr (.inr (.inr ⟨c0, c1, c2, h1⟩)), s, rfl⟩

theorem tries_loop {B a1 : List Int} (a5 : Bool) (hBs : Bs B) (hB : B.length < 1099511627776) (ha : a1.length ≤ 30) (h8 : Bs a1) : ∀ (m i p : Nat), i + m = a1.length → p ≤ B.length →
    ∃ y, loop (fun s : List Int × List Int × Int × Bool × Int × Int => law03_ColumnTries_1_l1 a1 a5 s.1 s.2.1 s.2.2.1 s.2.2.2.1 s.2.2.2.2.1 s.2.2.2.2.2) (B.drop p, B, (p : Int), true, (i : Int), (i : Int)) = some y ∧
      ((∃ q : Nat, q ≤ B.length ∧ y = .inl (B.drop q, B, (q : Int), true, (a1.length : Int))) ∨
       ∃ s x, ∃ q j : Nat, q ≤ B.length ∧ a1[j]? = some x ∧ stuck x (B.drop q) ∧ y = .inr (.inr (s, a1, ⟨B, (q : Int)⟩, true, (j : Int), a5)))
  | 0, i, p, hi, hp => by
    refine ⟨_, loop_end (t := Sum.inl (B.drop p, B, (p : Int), true, (i : Int))) ?_, .inl ⟨p, hp, by rw [show i = a1.length by omega]⟩⟩
    show law03_ColumnTries_1_l1 a1 a5 (B.drop p) B (p : Int) true (i : Int) (i : Int) = _
    unfold law03_ColumnTries_1_l1
    rw [if_neg (by simp only [decide_eq_true_eq]; omega)]
  | m + 1, i, p, hi, hp => by
    have hx := List.getElem?_eq_getElem (l := a1) (i := i) (by omega)
    rcases tries_step a5 hBs hB ha hp hx (h8 _ (List.mem_of_getElem? hx)) with ⟨q, hq, hs⟩ | ⟨hst, s, hs⟩
    · obtain ⟨y, hy, hm⟩ := tries_loop a5 hBs hB ha h8 m (i + 1) q (by omega) hq
      exact ⟨y, (loop_nxt hs).trans hy, hm⟩
    · exact ⟨_, loop_end hs, .inr ⟨s, _, p, i, hp, hx, hst, rfl⟩⟩

theorem ColumnTries (a0 a1 : List Int) (a2 : Bool) (h0 : gL 1 (gI .u8) a0) (h1 : gL 1 (gI .u8) a1) (h2 : gB a2) : law03_ColumnTries a0 a1 a2 = some true := by
  have hb : ∀ {l : List Int}, gL 1 (gI .u8) l → Bs l := fun {l} h x hx => by
    have := h.2 x hx
    unfold gI Lit.wf at this
    simp only [Bool.and_eq_true, decide_eq_true_eq] at this
    exact ⟨this.1, Int.lt_of_le_of_lt this.2 (by decide)⟩
  have hBs := hb h0
  have h8 := hb h1
  have hj : law03_ColumnTries_j1 a0 a1 a2 true = some true := by
    unfold law03_ColumnTries_j1; rw [if_pos rfl, awake3_eq]; rfl
  unfold law03_ColumnTries
  rw [awake3_eq]
  simp only [Option.bind_some]
  rw [if_neg (by simp)]
  by_cases hl : 500 < a0.length
  · rw [if_pos (by simp only [decide_eq_true_eq]; omega), hj]
  rw [if_neg (by simp only [decide_eq_true_eq]; omega)]
  by_cases hl1 : 30 < a1.length
  · rw [show decide (30 < (a1.length : Int)) = true by simp; omega, hj]
  rw [show decide (30 < (a1.length : Int)) = false by simp; omega]
  have hB : a0.length < 1099511627776 := by omega
  unfold law03_ColumnTries_j1 Try_law03_ColumnTries_1 law03_ColumnTries_1
  rw [if_neg (by simp)]
  obtain ⟨y, hy, hm⟩ := tries_loop (B := a0) (a1 := a1) a2 hBs hB (by omega) h8 a1.length 0 0 (by omega) (by omega)
  rw [List.drop_zero, show ((0 : Nat) : Int) = 0 from rfl] at hy
  simp only
  rw [hy]
  rcases hm with ⟨q, hq, rfl⟩ | ⟨s, x, q, j, hq, hx, hst, rfl⟩
  · simp only [Option.bind_some]
    unfold law03_ColumnTries_1_x1_0 law03_ColumnTries_1_b1
    cases a2 with
    | true =>
      rw [Check_t]
      simp only [Option.bind_some, s_inl]
      rw [if_neg (by simp), if_pos trivial, if_pos trivial]
      congr 1
      rw [beq_iff_eq, Bool.eq_iff_iff]
      simp only [beq_iff_eq, List.length_drop]
      omega
    | false =>
      rw [Check_f]
      simp only [Option.bind_some, s_inr]
      rw [if_neg (by simp), if_pos trivial, if_neg (by simp)]
      rfl
  · have hx8 := h8 _ (List.mem_of_getElem? hx)
    have hjl : j < a1.length := by
      rcases Nat.lt_or_ge j a1.length with h | h
      · exact h
      · rw [List.getElem?_eq_none h] at hx; cases hx
    simp only [Option.bind_some, s_inr, lt_]
    rw [if_pos (by simp only [decide_eq_true_eq]; omega), at_int rfl hx]
    simp only [Option.bind_some]
    rw [u64w (n := x) (by omega) (by omega)]
    rcases hst with ⟨c0, hn⟩ | ⟨c1, hn⟩ | ⟨c2, hn⟩ | ⟨c0, c1, c2, hn⟩
    · rw [if_pos (by simpa using c0)]
      rcases (rUint_is (IntKind.u64.wrap (x * x)) hBs hB hq).cases with ⟨v', r', q, g1, _⟩ | ⟨g1, a, g2⟩
      · rw [hn] at g1; cases g1
      · rw [g2]; rfl
    · rw [if_neg (by simp [c1]), if_pos (by simpa using c1)]
      rcases (rInt_is hBs hB hq).cases with ⟨v', r', q, g1, _⟩ | ⟨g1, a, g2⟩
      · rw [hn] at g1; cases g1
      · rw [g2]; rfl
    · rw [if_neg (by simp [c2]), if_neg (by simp [c2]), if_pos (by simpa using c2)]
      rcases (rText_is (IntKind.i64.wrap x) hBs hB hq).cases with ⟨v', r', q, g1, _⟩ | ⟨g1, a, g2⟩
      · rw [hn] at g1; cases g1
      · rw [g2]; rfl
    · rw [if_neg (by simpa using c0), if_neg (by simpa using c1), if_neg (by simpa using c2)]
      rcases (rByte_is a0 hq hB).cases with ⟨v', r', q, g1, _⟩ | ⟨g1, a, g2⟩
      · rw [hn] at g1; cases g1
      · rw [g2]; rfl
end Go.Proofs.Ythokgnonmcgkcaa.P
