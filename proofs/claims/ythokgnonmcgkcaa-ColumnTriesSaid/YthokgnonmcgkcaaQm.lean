/- What the document reads as whole numbers: the same. -/
import Derived.Test.YthokgnonmcgkcaaQl
namespace Go.Proofs.Ythokgnonmcgkcaa.P
open Go Go.RowKit Go.Proofs.Ythokgnonmcgkcaa.E Go.Proofs.Ythokgnonmcgkcaa.M
set_option linter.unusedVariables false

def IsT (B acc : List Int) (t : List Int × Int × List Int) (p : Option (List Int × List Int)) : Prop :=
  match p with
  | some (l, r) => ∃ q : Nat, t = (B, (q : Int), acc ++ l) ∧ q ≤ B.length ∧ B.drop q = r
  | none => ∃ a, t = (B, -1, a)
theorem IsT.cons {B acc : List Int} {t : List Int × Int × List Int} {p : Option (List Int × List Int)} (x : List Int) (h : IsT B (acc ++ x) t p) :
    IsT B acc t (match (generalizing := false) p with | some (l, r) => some (x ++ l, r) | none => none) := by
  cases p with
  | none => exact h
  | some y =>
    obtain ⟨q, h1, h2, h3⟩ := h
    exact ⟨q, by rw [h1, List.append_assoc], h2, h3⟩

theorem rUint_none (most : Int) {B : List Int} (hBs : Bs B) (hB : B.length < 1099511627776) {q : Nat} (hq : q ≤ B.length) (hn : pU most (B.drop q) = none) : r03_Reader_Uint ⟨B, (q : Int)⟩ most = some (0, ⟨B, -1⟩) := by
  unfold r03_Reader_Uint
  obtain ⟨y, hy, hm⟩ := rUloop most B hBs hB _ q 0 0 rfl hq (by omega) (by simp) (by omega)
  rw [show ((0 : Nat) : Int) = 0 from rfl] at hy
  rw [hy]
  change (match pU most (B.drop q) with
      | some (a, r) => ∃ q' : Nat, y = .inr (a, ⟨B, (q' : Int)⟩) ∧ q' ≤ B.length ∧ B.drop q' = r
      | none => ∃ x, y = .inl (B, x)) at hm
  rw [hn] at hm
  obtain ⟨x, rfl⟩ := hm
  rfl

section
variable {B : List Int} (hBs : Bs B) (hB : B.length < 1099511627776)
include hBs hB

theorem rm_loop (n : Nat) (hn : n ≤ 4096) : ∀ (m k q : Nat) (acc : List Int), k + m = n → acc.length = k → q ≤ B.length →
    ∃ t, loop (fun s : List Int × Int × List Int × Int => r03_Reader_Ints_l1 (n : Int) s.1 s.2.1 s.2.2.1 s.2.2.2) (B, (q : Int), acc, (k : Int)) = some t ∧ IsT B acc t (pMany m (B.drop q))
  | 0, k, q, acc, hk, ha, hq => by
    refine ⟨(B, (q : Int), acc), loop_end ?_, q, by simp, hq, rfl⟩
    show r03_Reader_Ints_l1 (n : Int) B (q : Int) acc (k : Int) = _
    unfold r03_Reader_Ints_l1
    rw [if_neg (by simp only [decide_eq_true_eq]; omega)]
    rfl
  | m + 1, k, q, acc, hk, ha, hq => by
    have hl1 : r03_Reader_Ints_l1 (n : Int) B (q : Int) acc (k : Int) = (r03_Reader_Int ⟨B, (q : Int)⟩).bind fun y => some (.inl (y.2.f0, y.2.f1, acc ++ [y.1], ((k + 1 : Nat) : Int))) := by
      unfold r03_Reader_Ints_l1 r03_Reader_Ints_j2
      rw [if_pos (by simp only [decide_eq_true_eq]; omega), if_pos (by simp only [decide_eq_true_eq]; omega)]
      congr 1
      funext y
      rw [chk_pos (by simp; omega), lt_, w64 (by omega) (by omega)]
      rfl
    unfold pMany
    rcases (rInt_is hBs hB hq).cases with ⟨x, r, q', h1, h2, h3, h4⟩ | ⟨h1, a, h2⟩
    · rw [h1]
      obtain ⟨t, ht, hm⟩ := rm_loop n hn m (k + 1) q' (acc ++ [x]) (by omega) (by simp [ha]) h3
      refine ⟨t, (loop_nxt (s' := (B, (q' : Int), acc ++ [x], ((k + 1 : Nat) : Int))) ?_).trans ht, ?_⟩
      · exact hl1.trans (by rw [h2]; rfl)
      · rw [h4] at hm
        have := hm.cons
        exact this
    · rw [h1]
      refine ⟨(B, -1, acc ++ [a]), (loop_nxt (s' := (B, -1, acc ++ [a], ((k + 1 : Nat) : Int))) (hl1.trans (by rw [h2]; rfl))).trans (loop_end ?_), _, rfl⟩
      show r03_Reader_Ints_l1 (n : Int) B (-1) (acc ++ [a]) ((k + 1 : Nat) : Int) = _
      unfold r03_Reader_Ints_l1
      split <;> rfl

theorem rd_loop (n : Nat) (hn : n ≤ 4096) : ∀ (m k q : Nat) (b : Int) (acc : List Int), k + m = n → acc.length = k → q ≤ B.length →
    ∃ t, loop (fun s : List Int × Int × List Int × Int × Int => r03_Reader_Ints_l2 (n : Int) s.1 s.2.1 s.2.2.1 s.2.2.2.1 s.2.2.2.2) (B, (q : Int), acc, b, (k : Int)) = some t ∧ IsT B acc t (pD b m (B.drop q))
  | 0, k, q, b, acc, hk, ha, hq => by
    refine ⟨(B, (q : Int), acc), loop_end ?_, q, by simp, hq, rfl⟩
    show r03_Reader_Ints_l2 (n : Int) B (q : Int) acc b (k : Int) = _
    unfold r03_Reader_Ints_l2
    rw [if_neg (by simp only [decide_eq_true_eq]; omega)]
    rfl
  | m + 1, k, q, b, acc, hk, ha, hq => by
    have hl1 : r03_Reader_Ints_l2 (n : Int) B (q : Int) acc b (k : Int) = (r03_Reader_Int ⟨B, (q : Int)⟩).bind fun y => some (.inl (y.2.f0, y.2.f1, acc ++ [IntKind.i64.wrap (b + y.1)], IntKind.i64.wrap (b + y.1), ((k + 1 : Nat) : Int))) := by
      unfold r03_Reader_Ints_l2 r03_Reader_Ints_j3
      rw [if_pos (by simp only [decide_eq_true_eq]; omega), if_pos (by simp only [decide_eq_true_eq]; omega)]
      congr 1
      funext y
      rw [lt_, chk_pos (by simp; omega), lt_, w64 (n := (k : Int) + 1) (by omega) (by omega)]
      rfl
    unfold pD
    rcases (rInt_is hBs hB hq).cases with ⟨x, r, q', h1, h2, h3, h4⟩ | ⟨h1, a, h2⟩
    · rw [h1]
      obtain ⟨t, ht, hm⟩ := rd_loop n hn m (k + 1) q' (IntKind.i64.wrap (b + x)) (acc ++ [IntKind.i64.wrap (b + x)]) (by omega) (by simp [ha]) h3
      refine ⟨t, (loop_nxt (s' := (B, (q' : Int), acc ++ [IntKind.i64.wrap (b + x)], IntKind.i64.wrap (b + x), ((k + 1 : Nat) : Int))) ?_).trans ht, ?_⟩
      · exact hl1.trans (by rw [h2]; rfl)
      · rw [h4] at hm
        have := hm.cons
        exact this
    · rw [h1]
      refine ⟨(B, -1, acc ++ [IntKind.i64.wrap (b + a)]), (loop_nxt (s' := (B, -1, acc ++ [IntKind.i64.wrap (b + a)], IntKind.i64.wrap (b + a), ((k + 1 : Nat) : Int))) (hl1.trans (by rw [h2]; rfl))).trans (loop_end ?_), _, rfl⟩
      show r03_Reader_Ints_l2 (n : Int) B (-1) (acc ++ [IntKind.i64.wrap (b + a)]) (IntKind.i64.wrap (b + a)) ((k + 1 : Nat) : Int) = _
      unfold r03_Reader_Ints_l2
      split <;> rfl
end

theorem rrep_loop (y : Int × S26) (c : Nat) (acc : List Int) (h : acc.length + c < 100000) : loop (fun s : List Int × Int => r03_Reader_Ints_l4 y (c : Int) s.1 s.2) (acc, 0) = some (acc ++ List.replicate (c + 1) y.1) := by
  have := loop_to (b := fun s : List Int × Int => r03_Reader_Ints_l4 y (c : Int) s.1 s.2) (fun j => (acc ++ List.replicate j y.1, (j : Int))) (t := acc ++ List.replicate (c + 1) y.1) (c + 1) (fun j hj => by
    show r03_Reader_Ints_l4 y (c : Int) (acc ++ List.replicate j y.1) (j : Int) = _
    unfold r03_Reader_Ints_l4
    rw [if_pos (by simp only [decide_eq_true_eq]; omega), chk_pos (by simp; omega), lt_, w64 (by omega) (by omega), List.replicate_succ', List.append_assoc]
    rfl) (by
    show r03_Reader_Ints_l4 y (c : Int) (acc ++ List.replicate (c + 1) y.1) ((c + 1 : Nat) : Int) = _
    unfold r03_Reader_Ints_l4
    rw [if_neg (by simp only [decide_eq_true_eq]; omega)])
  simpa using this

section
variable {B : List Int} (hBs : Bs B) (hB : B.length < 1099511627776)
include hBs hB
theorem rr_loop (n : Nat) (hn : n ≤ 4096) : ∀ (f m q : Nat) (acc : List Int), acc.length + m = n → m ≤ f → q ≤ B.length →
    ∃ t, loop (fun s : List Int × Int × List Int => r03_Reader_Ints_l3 (n : Int) s.1 s.2.1 s.2.2) (B, (q : Int), acc) = some t ∧ IsT B acc t (pR f m (B.drop q))
  | 0, m, q, acc, hk, hf, hq => by
    refine ⟨(B, (q : Int), acc), loop_end ?_, q, by simp, hq, rfl⟩
    show r03_Reader_Ints_l3 (n : Int) B (q : Int) acc = _
    unfold r03_Reader_Ints_l3
    rw [if_neg (by simp only [decide_eq_true_eq]; omega)]
    rfl
  | f + 1, m, q, acc, hk, hf, hq => by
    unfold pR
    by_cases hm0 : m = 0
    · rw [if_pos hm0]
      refine ⟨(B, (q : Int), acc), loop_end ?_, q, by simp, hq, rfl⟩
      show r03_Reader_Ints_l3 (n : Int) B (q : Int) acc = _
      unfold r03_Reader_Ints_l3
      rw [if_neg (by simp only [decide_eq_true_eq]; omega)]
      rfl
    rw [if_neg hm0]
    have e1 : IntKind.u64.wrap (IntKind.i64.wrap (IntKind.i64.wrap ((n : Int) - (acc.length : Int)) - 1)) = ((m - 1 : Nat) : Int) := by
      rw [w64 (n := (n : Int) - (acc.length : Int)) (by omega) (by omega), w64 (by omega) (by omega), u64w (by omega) (by omega)]
      omega
    have hstep : ∀ (x : Int) (p p' : Int) (c : Nat), r03_Reader_Int ⟨B, (q : Int)⟩ = some (x, ⟨B, p⟩) → r03_Reader_Uint ⟨B, p⟩ ((m - 1 : Nat) : Int) = some ((c : Int), ⟨B, p'⟩) → c < 4096 →
        r03_Reader_Ints_l3 (n : Int) B (q : Int) acc = some (.inl (B, p', acc ++ List.replicate (c + 1) x)) := by
      intro x p p' c h1 h2 hc
      unfold r03_Reader_Ints_l3 r03_Reader_Ints_j4
      rw [if_pos (by simp only [decide_eq_true_eq]; omega), if_pos (by simp only [decide_eq_true_eq]; omega), h1]
      simp only [Option.bind_some, lt_]
      rw [e1, h2]
      simp only [Option.bind_some]
      rw [w64 (by omega) (by omega), rrep_loop _ _ _ (by omega)]
      rfl
    have hend : ∀ (a : List Int), loop (fun s : List Int × Int × List Int => r03_Reader_Ints_l3 (n : Int) s.1 s.2.1 s.2.2) (B, -1, a) = some (B, -1, a) := by
      intro a
      refine loop_end ?_
      show r03_Reader_Ints_l3 (n : Int) B (-1) a = _
      unfold r03_Reader_Ints_l3
      split <;> rfl
    rcases (rInt_is hBs hB hq).cases with ⟨x, r, q', h1, h2, h3, h4⟩ | ⟨h1, a, h2⟩
    · rw [h1]
      simp only
      rw [← h4]
      rcases (rUint_is ((m - 1 : Nat) : Int) hBs hB h3).cases with ⟨k, r', q'', g1, g2, g3, g4⟩ | ⟨g1, a, g2⟩
      · rw [g1]
        simp only
        obtain ⟨p1, p2, p3⟩ := (pU_some g1).1
        obtain ⟨c, rfl⟩ : ∃ c : Nat, k = (c : Int) := ⟨k.toNat, by omega⟩
        rw [Int.toNat_natCast]
        obtain ⟨t, ht, hm⟩ := rr_loop n hn f (m - (c + 1)) q'' (acc ++ List.replicate (c + 1) x) (by simp; omega) (by omega) g3
        refine ⟨t, (loop_nxt (s' := (B, (q'' : Int), acc ++ List.replicate (c + 1) x)) (hstep x _ _ c h2 g2 (by omega))).trans ht, ?_⟩
        rw [g4] at hm
        exact hm.cons
      · rw [g1]
        refine ⟨_, (loop_nxt (s' := (B, -1, acc ++ List.replicate (0 + 1) x)) (hstep x _ _ 0 h2 ?_ (by omega))).trans (hend _), _, rfl⟩
        rw [rUint_none _ hBs hB h3 g1]
        rfl
    · rw [h1]
      refine ⟨_, (loop_nxt (s' := (B, -1, acc ++ List.replicate (0 + 1) a)) (hstep a _ _ 0 h2 ?_ (by omega))).trans (hend _), _, rfl⟩
      rw [rUint_no]
      rfl
end
end Go.Proofs.Ythokgnonmcgkcaa.P
