/- What the document's reader reads: the same. -/
import Derived.Test.YthokgnonmcgkcaaQh
namespace Go.Proofs.Ythokgnonmcgkcaa.P
open Go Go.RowKit Go.Proofs.Ythokgnonmcgkcaa.E Go.Proofs.Ythokgnonmcgkcaa.M
set_option linter.unusedVariables false

/-- it reads from a place on; behind a fault the place is below 0 -/
def IsQ {ρ : Type} (B : List Int) (o : Option (ρ × S26)) (p : Option (ρ × List Int)) : Prop :=
  match p with
  | some (a, r) => ∃ q : Nat, o = some (a, ⟨B, (q : Int)⟩) ∧ q ≤ B.length ∧ B.drop q = r
  | none => ∃ a, o = some (a, ⟨B, -1⟩)
theorem IsQ.cases {ρ : Type} {B : List Int} {o : Option (ρ × S26)} {p : Option (ρ × List Int)} (h : IsQ B o p) : (∃ a r, ∃ q : Nat, p = some (a, r) ∧ o = some (a, ⟨B, (q : Int)⟩) ∧ q ≤ B.length ∧ B.drop q = r) ∨ (p = none ∧ ∃ a, o = some (a, ⟨B, -1⟩)) := by
  unfold IsQ at h
  split at h
  · obtain ⟨q, h1, h2, h3⟩ := h
    exact .inl ⟨_, _, q, rfl, h1, h2, h3⟩
  · exact .inr ⟨rfl, h⟩

theorem rByte_is (B : List Int) {q : Nat} (hq : q ≤ B.length) (hB : B.length < 1099511627776) : IsQ B (r03_Reader_Byte ⟨B, (q : Int)⟩) (pB (B.drop q)) := by
  unfold r03_Reader_Byte r03_Reader_Byte_j1
  rw [if_neg (by simp only [decide_eq_true_eq]; omega)]
  by_cases h : q < B.length
  · have hx := List.getElem?_eq_getElem h
    rw [if_neg (by simp only [decide_eq_true_eq]; omega)]
    simp only [lt_]
    rw [w64 (n := (q : Int) + 1) (by omega) (by omega), w64 (by omega) (by omega), at_int (n := q) (by omega) hx, List.drop_eq_getElem_cons h]
    exact ⟨q + 1, rfl, by omega, rfl⟩
  · rw [if_pos (by simp only [decide_eq_true_eq]; omega), List.drop_of_length_le (by omega)]
    exact ⟨_, rfl⟩
theorem rByte_no (B : List Int) : r03_Reader_Byte ⟨B, -1⟩ = some (0, ⟨B, -1⟩) := rfl

theorem rUloop (most : Int) (B : List Int) (hBs : Bs B) (hB : B.length < 1099511627776) : ∀ (m q i n : Nat), B.length - q = m → q ≤ B.length → i ≤ 10 → n < 2 ^ (7 * i) → n < 18446744073709551616 →
    ∃ y, loop (fun s : List Int × Int × Int × Int => r03_Reader_Uint_l1 most s.1 s.2.1 s.2.2.1 s.2.2.2) (B, (q : Int), (n : Int), (i : Int)) = some y ∧ match (match pV i n (B.drop q) with | some (m, r) => if (m : Int) ≤ most then some ((m : Int), r) else none | none => none) with
      | some (a, r) => ∃ q' : Nat, y = .inr (a, ⟨B, (q' : Int)⟩) ∧ q' ≤ B.length ∧ B.drop q' = r
      | none => ∃ x, y = .inl (B, x) := by
  intro m
  induction m with
  | zero =>
    intro q i n hm hq hi h1 h2
    have hqe : q = B.length := by omega
    have hd : B.drop q = [] := List.drop_of_length_le (by omega)
    rw [hd]
    refine ⟨.inl (B, if i < 10 then -1 else (q : Int)), loop_end ?_, _, rfl⟩
    show r03_Reader_Uint_l1 most B (q : Int) (n : Int) (i : Int) = _
    unfold r03_Reader_Uint_l1
    by_cases hi' : i < 10
    · rw [if_pos (by simp only [decide_eq_true_eq]; omega)]
      have hb : r03_Reader_Byte ⟨B, (q : Int)⟩ = some (0, ⟨B, -1⟩) := by
        unfold r03_Reader_Byte r03_Reader_Byte_j1
        rw [if_neg (by simp only [decide_eq_true_eq]; omega), if_pos (by simp only [decide_eq_true_eq]; omega)]
      rw [hb, if_pos hi']
      rfl
    · rw [if_neg (by simp only [decide_eq_true_eq]; omega), if_neg hi']
  | succ m ih =>
    intro q i n hm hq hi h1 h2
    have hql : q < B.length := by omega
    have hx := List.getElem?_eq_getElem hql
    have hd : B.drop q = B[q] :: B.drop (q + 1) := List.drop_eq_getElem_cons hql
    have hbb := hBs _ (List.mem_of_getElem? hx)
    have hby : r03_Reader_Byte ⟨B, (q : Int)⟩ = some (B[q], ⟨B, ((q + 1 : Nat) : Int)⟩) := by
      unfold r03_Reader_Byte r03_Reader_Byte_j1
      rw [if_neg (by simp only [decide_eq_true_eq]; omega), if_neg (by simp only [decide_eq_true_eq]; omega)]
      simp only [lt_]
      rw [w64 (n := (q : Int) + 1) (by omega) (by omega), w64 (by omega) (by omega), at_int (n := q) (by omega) hx]
      rfl
    rw [hd]
    obtain ⟨c, hc⟩ : ∃ c : Nat, B[q] = (c : Int) := ⟨B[q].toNat, by omega⟩
    rw [hc] at hby hbb ⊢
    generalize hpv : pV i n ((c : Int) :: B.drop (q + 1)) = pv
    have hcase : (c : Int) < 128 ∨ 128 ≤ (c : Int) := by omega
    by_cases hi10 : i = 10
    · subst hi10
      rw [pV, if_neg (by omega)] at hpv
      subst hpv
      refine ⟨.inl (B, (q : Int)), loop_end ?_, _, rfl⟩
      show r03_Reader_Uint_l1 most B (q : Int) (n : Int) ((10 : Nat) : Int) = _
      unfold r03_Reader_Uint_l1
      rw [if_neg (by decide)]
    have hl0 : r03_Reader_Uint_l1 most B (q : Int) (n : Int) (i : Int) = r03_Reader_Uint_j1 most (n : Int) (i : Int) ((c : Int), ⟨B, ((q + 1 : Nat) : Int)⟩) (decide (¬ (i < 9 ∨ (i = 9 ∧ (c : Int) < 2)))) := by
      unfold r03_Reader_Uint_l1
      rw [if_pos (by simp only [decide_eq_true_eq]; omega), hby]
      simp only [Option.bind_some]
      rw [if_neg (by simp only [decide_eq_true_eq]; omega)]
      by_cases h9 : i = 9
      · subst h9
        rw [if_pos (by rfl)]
        congr 1
        rw [decide_eq_decide]
        omega
      · rw [if_neg (by simp; omega)]
        congr 1
        rw [eq_comm, decide_eq_false_iff_not]
        omega
    by_cases hok : i < 9 ∨ (i = 9 ∧ (c : Int) < 2)
    · have hp : 2 ^ (7 * (i + 1)) = 128 * 2 ^ (7 * i) := by rw [show 7 * (i + 1) = 7 + 7 * i by omega, Nat.pow_add]
      have hm' : c % 128 * 2 ^ (7 * i) ≤ 127 * 2 ^ (7 * i) := Nat.mul_le_mul_right _ (by omega)
      have hlt : c % 128 * 2 ^ (7 * i) < 18446744073709551616 ∧ n + c % 128 * 2 ^ (7 * i) < 18446744073709551616 := by
        rcases hok with hc' | ⟨hc', hb⟩
        · have : 2 ^ (7 * i) ≤ 2 ^ 56 := Nat.pow_le_pow_right (by decide) (by omega)
          omega
        · subst hc'
          have : c % 128 * 2 ^ (7 * 9) ≤ 1 * 2 ^ (7 * 9) := Nat.mul_le_mul_right _ (by omega)
          omega
      have hlt2 : n + c % 128 * 2 ^ (7 * i) < 2 ^ (7 * (i + 1)) := by rw [hp]; omega
      obtain ⟨s, hs⟩ : ∃ s, s = n + c % 128 * 2 ^ (7 * i) := ⟨_, rfl⟩
      rw [pV, if_pos hok, Int.toNat_natCast, ← hs] at hpv
      rw [show decide (¬ (i < 9 ∨ (i = 9 ∧ (c : Int) < 2))) = false by simp only [decide_eq_false_iff_not, Decidable.not_not]; exact hok] at hl0
      have e3 : ishl .u64 ((c % 128 : Nat) : Int) ((7 * i : Nat) : Int) = ((c % 128 * 2 ^ (7 * i) : Nat) : Int) := by
        rw [ishl_u64 _ _ (by omega), Nat.mod_eq_of_lt hlt.1]
      have hj : r03_Reader_Uint_j1 most (n : Int) (i : Int) ((c : Int), ⟨B, ((q + 1 : Nat) : Int)⟩) false = if (c : Int) < 128 then (if (i = 0 ∨ 0 < (c : Int)) ∧ (s : Int) ≤ most then some (.inr (.inr ((s : Int), ⟨B, ((q + 1 : Nat) : Int)⟩))) else some (.inr (.inl (B, ((q + 1 : Nat) : Int))))) else some (.inl (B, ((q + 1 : Nat) : Int), (s : Int), ((i + 1 : Nat) : Int))) := by
        unfold r03_Reader_Uint_j1
        rw [if_neg (by simp)]
        simp only [lt_]
        rw [show ((c : Int)).tmod 128 = ((c % 128 : Nat) : Int) from rfl, u64w (n := ((c % 128 : Nat) : Int)) (by omega) (by omega), w64 (n := 7 * (i : Int)) (by omega) (by omega), show 7 * (i : Int) = ((7 * i : Nat) : Int) by omega, chk_pos (by omega), e3,
          ← Int.natCast_add, ← hs, u64w (n := (s : Int)) (by omega) (by omega)]
        have hj2 : ∀ b, r03_Reader_Uint_j2 ((c : Int), ⟨B, ((q + 1 : Nat) : Int)⟩) (s : Int) b = if b = true then some (.inr (.inl (B, ((q + 1 : Nat) : Int)))) else some (.inr (.inr ((s : Int), ⟨B, ((q + 1 : Nat) : Int)⟩))) := fun _ => rfl
        rcases hcase with h128 | h128
        · rw [if_pos (by simpa using h128), if_pos h128]
          by_cases hi0 : i = 0
          · subst hi0
            rw [if_neg (by simp), hj2]
            by_cases hmo : (s : Int) ≤ most
            · rw [if_neg (by simp only [decide_eq_true_eq]; omega), if_pos ⟨.inl rfl, hmo⟩]
            · rw [if_pos (by simp only [decide_eq_true_eq]; omega), if_neg (fun h => hmo h.2)]
          · rw [if_pos (by simp only [decide_eq_true_eq]; omega)]
            by_cases hc0 : c = 0
            · subst hc0
              rw [if_pos (by rfl), hj2, if_pos rfl, if_neg (by rintro ⟨h | h, _⟩; exact hi0 h; exact absurd h (by decide))]
            · rw [if_neg (by simp; omega), hj2]
              by_cases hmo : (s : Int) ≤ most
              · rw [if_neg (by simp only [decide_eq_true_eq]; omega), if_pos ⟨.inr (by omega), hmo⟩]
              · rw [if_pos (by simp only [decide_eq_true_eq]; omega), if_neg (fun h => hmo h.2)]
        · rw [if_neg (by simpa using h128), if_neg (Int.not_lt.2 h128), w64 (by omega) (by omega)]
          rfl
      rcases hcase with h128 | h128
      · rw [if_pos h128] at hj hpv
        by_cases h0 : i = 0 ∨ 0 < (c : Int)
        · rw [if_pos h0] at hpv
          subst hpv
          simp only
          by_cases hmo : (s : Int) ≤ most
          · rw [if_pos ⟨h0, hmo⟩] at hj
            rw [if_pos hmo]
            exact ⟨_, loop_end (hl0.trans hj), q + 1, rfl, by omega, rfl⟩
          · rw [if_neg (fun h => hmo h.2)] at hj
            rw [if_neg hmo]
            exact ⟨_, loop_end (hl0.trans hj), _, rfl⟩
        · rw [if_neg h0] at hpv
          subst hpv
          rw [if_neg (fun h => h0 h.1)] at hj
          exact ⟨_, loop_end (hl0.trans hj), _, rfl⟩
      · rw [if_neg (Int.not_lt.2 h128)] at hj hpv
        rw [loop_nxt (hl0.trans hj)]
        subst hpv
        exact ih (q + 1) (i + 1) s (by omega) (by omega) (by omega) (by rw [hs]; exact hlt2) (by rw [hs]; exact hlt.2)
    · rw [pV, if_neg hok] at hpv
      subst hpv
      rw [show decide (¬ (i < 9 ∨ (i = 9 ∧ (c : Int) < 2))) = true by rw [decide_eq_true_eq]; exact hok] at hl0
      exact ⟨_, loop_end (t := Sum.inl (B, ((q + 1 : Nat) : Int))) (hl0.trans rfl), _, rfl⟩

theorem rUint_is (most : Int) {B : List Int} (hBs : Bs B) (hB : B.length < 1099511627776) {q : Nat} (hq : q ≤ B.length) : IsQ B (r03_Reader_Uint ⟨B, (q : Int)⟩ most) (pU most (B.drop q)) := by
  unfold r03_Reader_Uint
  obtain ⟨y, hy, hm⟩ := rUloop most B hBs hB _ q 0 0 rfl hq (by omega) (by simp) (by omega)
  rw [show ((0 : Nat) : Int) = 0 from rfl] at hy
  rw [hy]
  change (match pU most (B.drop q) with
      | some (a, r) => ∃ q' : Nat, y = .inr (a, ⟨B, (q' : Int)⟩) ∧ q' ≤ B.length ∧ B.drop q' = r
      | none => ∃ x, y = .inl (B, x)) at hm
  revert hm
  cases pU most (B.drop q) with
  | none => rintro ⟨x, rfl⟩; exact ⟨_, rfl⟩
  | some a => rintro ⟨q', rfl, h1, h2⟩; exact ⟨q', rfl, h1, h2⟩
theorem rUint_no (most : Int) (B : List Int) : r03_Reader_Uint ⟨B, -1⟩ most = some (0, ⟨B, -1⟩) := by
  unfold r03_Reader_Uint
  rw [loop_end (t := Sum.inl (B, -1)) rfl]
  rfl

theorem rInt_is {B : List Int} (hBs : Bs B) (hB : B.length < 1099511627776) {q : Nat} (hq : q ≤ B.length) : IsQ B (r03_Reader_Int ⟨B, (q : Int)⟩) (pI (B.drop q)) := by
  unfold r03_Reader_Int pI
  rcases (rUint_is 18446744073709551615 hBs hB hq).cases with ⟨a, r, q', h1, h2, h3, h4⟩ | ⟨h1, a, h2⟩
  · rw [h1, h2]
    obtain ⟨⟨q1, q2, _⟩, _⟩ := pU_some h1
    obtain ⟨n, rfl⟩ : ∃ n : Nat, a = (n : Int) := ⟨a.toNat, by omega⟩
    simp only [Option.bind_some, lt_, Int.toNat_natCast]
    refine ⟨q', ?_, h3, h4⟩
    have e1 : (n : Int).tmod 2 = ((n % 2 : Nat) : Int) := rfl
    have e2 : (n : Int).tdiv 2 = ((n / 2 : Nat) : Int) := rfl
    rw [e1, e2, u64w (n := ((n / 2 : Nat) : Int)) (by omega) (by omega), w64 (n := ((n / 2 : Nat) : Int)) (by omega) (by omega)]
    unfold uz
    by_cases ho : n % 2 = 1
    · rw [ho, if_pos (by rfl), if_pos rfl, w64 (n := 0 - ((n / 2 : Nat) : Int)) (by omega) (by omega), w64 (by omega) (by omega)]
      congr 2
      omega
    · rw [if_neg (by simp; omega), if_neg ho]
  · rw [h1, h2]
    refine ⟨if ((a.tmod 2) == 1) = true then IntKind.i64.wrap (IntKind.i64.wrap (0 - IntKind.i64.wrap (IntKind.u64.wrap (a.tdiv 2))) - 1) else IntKind.i64.wrap (IntKind.u64.wrap (a.tdiv 2)), ?_⟩
    simp only [Option.bind_some, lt_]
    split <;> rfl
theorem rInt_no (B : List Int) : r03_Reader_Int ⟨B, -1⟩ = some (0, ⟨B, -1⟩) := by
  unfold r03_Reader_Int
  rw [rUint_no]
  rfl

theorem rText_is (most : Int) {B : List Int} (hBs : Bs B) (hB : B.length < 1099511627776) {q : Nat} (hq : q ≤ B.length) : IsQ B (r03_Reader_Text ⟨B, (q : Int)⟩ most) (pT most (B.drop q)) := by
  unfold r03_Reader_Text pT r03_Reader_Text_j1
  rw [lt_]
  rcases (rUint_is (IntKind.u64.wrap most) hBs hB hq).cases with ⟨a, r, q', h1, h2, h3, h4⟩ | ⟨h1, a, h2⟩
  · rw [h1, h2]
    obtain ⟨⟨q1, q2, _⟩, _⟩ := pU_some h1
    obtain ⟨n, rfl⟩ : ∃ n : Nat, a = (n : Int) := ⟨a.toNat, by omega⟩
    have hr : r.length = B.length - q' := by rw [← h4]; simp
    simp only [Option.bind_some, lt_, Int.toNat_natCast]
    rw [if_neg (by simp only [decide_eq_true_eq]; omega), w64 (n := (B.length : Int) - (q' : Int)) (by omega) (by omega), u64w (by omega) (by omega)]
    by_cases hn : (n : Int) ≤ (r.length : Int)
    · rw [if_neg (by simp only [decide_eq_true_eq]; omega), if_pos hn, w64 (n := (n : Int)) (by omega) (by omega), w64 (by omega) (by omega)]
      have c := cut_nat (xs := B) (l := q') (u := q' + n) (by omega) (by omega)
      rw [show (q' : Int) + (n : Int) = ((q' + n : Nat) : Int) by omega, c]
      simp only [Option.bind_some]
      refine ⟨q' + n, ?_, by omega, ?_⟩
      · rw [← h4, List.take_drop]
      · rw [← h4, List.drop_drop]
    · rw [if_pos (by simp only [decide_eq_true_eq]; omega), if_neg hn]
      exact ⟨_, rfl⟩
  · rw [h1, h2]
    simp only [Option.bind_some]
    rw [if_pos (by rfl), if_pos trivial]
    exact ⟨_, rfl⟩
theorem rText_no (most : Int) (B : List Int) : r03_Reader_Text ⟨B, -1⟩ most = some ([], ⟨B, -1⟩) := by
  unfold r03_Reader_Text
  rw [lt_, rUint_no]
  rfl
end Go.Proofs.Ythokgnonmcgkcaa.P
