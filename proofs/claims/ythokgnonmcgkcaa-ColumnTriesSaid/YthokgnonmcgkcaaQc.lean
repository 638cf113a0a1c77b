/- What the program's reader reads, in plain words. -/
import Derived.Test.YthokgnonmcgkcaaQb
import Derived.Test.YthokgnonmcgkcaaDd
namespace Go.Proofs.Ythokgnonmcgkcaa.P
open Go Go.RowKit Go.Proofs.Ythokgnonmcgkcaa.E Go.Proofs.Ythokgnonmcgkcaa.M
set_option linter.unusedVariables false

def pB : List Int → Option (Int × List Int)
  | [] => none
  | b :: r => some (b, r)
def pV (i n : Nat) : List Int → Option (Nat × List Int)
  | [] => none
  | b :: r => if i < 9 ∨ (i = 9 ∧ b < 2) then
      (if b < 128 then (if i = 0 ∨ 0 < b then some (n + b.toNat % 128 * 2 ^ (7 * i), r) else none) else pV (i + 1) (n + b.toNat % 128 * 2 ^ (7 * i)) r)
    else none
def pU (most : Int) (xs : List Int) : Option (Int × List Int) := match pV 0 0 xs with
  | some (n, r) => if (n : Int) ≤ most then some ((n : Int), r) else none
  | none => none
def pI (xs : List Int) : Option (Int × List Int) := match pU 18446744073709551615 xs with
  | some (n, r) => some (uz n.toNat, r)
  | none => none
def pT (most : Int) (xs : List Int) : Option (List UInt8 × List Int) := match pU (IntKind.u64.wrap most) xs with
  | some (n, r) => if n ≤ (r.length : Int) then some (bts (r.take n.toNat), r.drop n.toNat) else none
  | none => none

def IsR {ρ : Type} (o : Option ((ρ × S72) ⊕ S72)) (p : Option (ρ × List Int)) : Prop :=
  match p with
  | some (a, r) => o = some (.inl (a, ⟨r⟩))
  | none => ∃ s, o = some (.inr s)
theorem IsR.cases {ρ : Type} {o : Option ((ρ × S72) ⊕ S72)} {p : Option (ρ × List Int)} (h : IsR o p) : (∃ a r, p = some (a, r) ∧ o = some (.inl (a, ⟨r⟩))) ∨ (p = none ∧ ∃ s, o = some (.inr s)) := by
  unfold IsR at h
  split at h
  · exact .inl ⟨_, _, rfl, h⟩
  · exact .inr ⟨rfl, h⟩
theorem s_inl {α β γ : Type} (a : α) (f : α → Option γ) (g : β → Option γ) : sum_ (.inl a) f g = f a := rfl
theorem s_inr {α β γ : Type} (b : β) (f : α → Option γ) (g : β → Option γ) : sum_ (.inr b) f g = g b := rfl
theorem Check_t (s : S72) : column_Reader_Check s true = some (.inl s) := rfl
theorem Check_f (s : S72) : column_Reader_Check s false = some (.inr s) := rfl

theorem Byte_is (xs : List Int) : IsR (column_Reader_Byte ⟨xs⟩) (pB xs) := by
  unfold column_Reader_Byte
  cases xs with
  | nil => exact ⟨_, rfl⟩
  | cons b r =>
    rw [show decide (0 < (((⟨b :: r⟩ : S72).f0.length : Nat) : Int)) = true by simp, Check_t]
    simp only [Option.bind_some, s_inl]
    have h1 : at_ (b :: r) 0 = some b := rfl
    have h2 : cut_ (b :: r) 1 ((b :: r).length : Int) = some r := by
      have := cut_nat (xs := b :: r) (l := 1) (u := (b :: r).length) (by simp) (Nat.le_refl _)
      rw [show ((1 : Nat) : Int) = 1 from rfl, List.take_length] at this
      exact this
    rw [h1]
    simp only [Option.bind_some]
    rw [h2]
    rfl

theorem and_127 (a : Nat) : a &&& 127 = a % 128 := Nat.and_two_pow_sub_one_eq_mod a 7

theorem pV_lt : ∀ (xs : List Int) (i n m : Nat) (r : List Int), n < 2 ^ (7 * i) → n < 18446744073709551616 → pV i n xs = some (m, r) → m < 18446744073709551616 ∧ ∃ p, xs = p ++ r ∧ 0 < p.length
  | [], i, n, m, r, _, _, h => by cases h
  | b :: xs, i, n, m, r, h1, h2, h => by
    unfold pV at h
    split at h
    · rename_i hc
      have hlt : n + b.toNat % 128 * 2 ^ (7 * i) < 18446744073709551616 ∧ n + b.toNat % 128 * 2 ^ (7 * i) < 2 ^ (7 * (i + 1)) := by
        have hp : 2 ^ (7 * (i + 1)) = 128 * 2 ^ (7 * i) := by rw [show 7 * (i + 1) = 7 + 7 * i by omega, Nat.pow_add]
        have hm : b.toNat % 128 * 2 ^ (7 * i) ≤ 127 * 2 ^ (7 * i) := Nat.mul_le_mul_right _ (by omega)
        refine ⟨?_, by rw [hp]; omega⟩
        rcases hc with hc | ⟨hc, hb⟩
        · have : 2 ^ (7 * i) ≤ 2 ^ 56 := Nat.pow_le_pow_right (by decide) (by omega)
          omega
        · subst hc
          have : b.toNat % 128 * 2 ^ (7 * 9) ≤ 1 * 2 ^ (7 * 9) := Nat.mul_le_mul_right _ (by omega)
          omega
      split at h
      · split at h
        · cases h
          exact ⟨hlt.1, [b], rfl, by simp⟩
        · cases h
      · obtain ⟨q1, p, rfl, q3⟩ := pV_lt xs (i + 1) _ m r hlt.2 hlt.1 h
        exact ⟨q1, b :: p, rfl, by simp⟩
    · cases h

theorem Uloop (most : Int) : ∀ (xs : List Int) (i n : Nat), Bs xs → i ≤ 10 → n < 2 ^ (7 * i) → n < 18446744073709551616 →
    IsR (loop (fun s : List Int × Int × Int => column_Reader_Uint_l1 most s.1 s.2.1 s.2.2) (xs, (n : Int), (i : Int))) (match pV i n xs with | some (m, r) => if (m : Int) ≤ most then some ((m : Int), r) else none | none => none)
  | [], i, n, hB, hi, h1, h2 => ⟨⟨[]⟩, loop_end rfl⟩
  | b :: xs, i, n, hB, hi, h1, h2 => by
    obtain ⟨hb, hB'⟩ := hB.cons
    generalize hpv : pV i n (b :: xs) = pv
    have hby : column_Reader_Byte ⟨b :: xs⟩ = some (.inl (b, ⟨xs⟩)) := Byte_is (b :: xs)
    obtain ⟨c, rfl⟩ : ∃ c : Nat, b = (c : Int) := ⟨b.toNat, by omega⟩
    have hcase : (c : Int) < 128 ∨ 128 ≤ (c : Int) := by omega
    by_cases hc : i < 9 ∨ (i = 9 ∧ (c : Int) < 2)
    · -- the byte is taken
      have hp : 2 ^ (7 * (i + 1)) = 128 * 2 ^ (7 * i) := by rw [show 7 * (i + 1) = 7 + 7 * i by omega, Nat.pow_add]
      have hm : c % 128 * 2 ^ (7 * i) ≤ 127 * 2 ^ (7 * i) := Nat.mul_le_mul_right _ (by omega)
      have hlt : c % 128 * 2 ^ (7 * i) < 18446744073709551616 ∧ n + c % 128 * 2 ^ (7 * i) < 18446744073709551616 := by
        rcases hc with hc | ⟨hc, hb⟩
        · have : 2 ^ (7 * i) ≤ 2 ^ 56 := Nat.pow_le_pow_right (by decide) (by omega)
          omega
        · subst hc
          have : c % 128 * 2 ^ (7 * 9) ≤ 1 * 2 ^ (7 * 9) := Nat.mul_le_mul_right _ (by omega)
          omega
      have hlt2 : n + c % 128 * 2 ^ (7 * i) < 2 ^ (7 * (i + 1)) := by rw [hp]; omega
      obtain ⟨m, hm'⟩ : ∃ m, m = n + c % 128 * 2 ^ (7 * i) := ⟨_, rfl⟩
      have e1 : iand .u8 (c : Int) 127 = ((c % 128 : Nat) : Int) := by
        have := iand_u8 (a := c) (b := 127) (by omega) (by omega)
        rw [show ((127 : Nat) : Int) = 127 from rfl] at this
        rw [this, and_127]
      have e2 : IntKind.i64.wrap (7 * (i : Int)) = ((7 * i : Nat) : Int) := by rw [w64 (by omega) (by omega)]; omega
      have e3 : ishl .u64 ((c % 128 : Nat) : Int) ((7 * i : Nat) : Int) = ((c % 128 * 2 ^ (7 * i) : Nat) : Int) := by
        rw [ishl_u64 _ _ (by omega), Nat.mod_eq_of_lt hlt.1]
      have e4 : ior .u64 (n : Int) ((c % 128 * 2 ^ (7 * i) : Nat) : Int) = (m : Int) := by rw [ior_u64 h2 hlt.1, or_top h1, hm']
      have hl1 : column_Reader_Uint_l1 most ((c : Int) :: xs) (n : Int) (i : Int) = column_Reader_Uint_j1 most (n : Int) (i : Int) ((c : Int), ⟨xs⟩) xs := by
        unfold column_Reader_Uint_l1
        rw [hby]
        simp only [Option.bind_some, s_inl]
        rcases hc with hc | ⟨hc, hc2⟩
        · rw [if_pos (by simp only [decide_eq_true_eq]; omega), Check_t]; rfl
        · rw [if_neg (by simp only [decide_eq_true_eq]; omega), if_pos (by subst hc; rfl), show decide ((c : Int) < 2) = true by simpa using hc2, Check_t]; rfl
      have hj : column_Reader_Uint_j1 most (n : Int) (i : Int) ((c : Int), ⟨xs⟩) xs = if (c : Int) < 128 then (if (m : Int) ≤ most ∧ (i = 0 ∨ 0 < (c : Int)) then some (.inr (.inl ((m : Int), ⟨xs⟩))) else some (.inr (.inr ⟨xs⟩))) else some (.inl (xs, (m : Int), ((i + 1 : Nat) : Int))) := by
        unfold column_Reader_Uint_j1
        simp only [lt_]
        rw [e1, u64w (by omega) (by omega), e2, chk_pos (by omega), e3, e4]
        by_cases hc1 : (c : Int) < 128
        · rw [if_pos (by simpa using hc1), if_pos hc1]
          by_cases hmo : (m : Int) ≤ most
          · rw [if_pos (by simpa using hmo)]
            by_cases hi0 : i = 0
            · subst hi0
              rw [if_pos (by rfl), Check_t, if_pos ⟨hmo, .inl rfl⟩]
              rfl
            · rw [if_neg (by simpa using hi0)]
              by_cases hc0 : 0 < (c : Int)
              · rw [show decide (0 < (c : Int)) = true by simpa using hc0, Check_t, if_pos ⟨hmo, .inr hc0⟩]; rfl
              · rw [show decide (0 < (c : Int)) = false by simpa using hc0, Check_f, if_neg (by rintro ⟨_, q | q⟩; exact hi0 q; exact hc0 q)]; rfl
          · rw [if_neg (by simpa using hmo), Check_f, if_neg (fun q => hmo q.1)]; rfl
        · rw [if_neg (by simpa using hc1), if_neg hc1, w64 (by omega) (by omega)]; rfl
      rw [pV, if_pos hc, Int.toNat_natCast, ← hm'] at hpv
      rcases hcase with hc1 | hc1
      · rw [if_pos hc1] at hj hpv
        by_cases h0 : i = 0 ∨ 0 < (c : Int)
        · rw [if_pos h0] at hpv
          subst hpv
          simp only
          by_cases hmo : (m : Int) ≤ most
          · rw [if_pos ⟨hmo, h0⟩] at hj
            rw [if_pos hmo]
            exact loop_end (hl1.trans hj)
          · rw [if_neg (fun q => hmo q.1)] at hj
            rw [if_neg hmo]
            exact ⟨_, loop_end (hl1.trans hj)⟩
        · rw [if_neg h0] at hpv
          subst hpv
          rw [if_neg (fun q => h0 q.2)] at hj
          exact ⟨_, loop_end (hl1.trans hj)⟩
      · rw [if_neg (Int.not_lt.2 hc1)] at hj hpv
        rw [loop_nxt (hl1.trans hj)]
        subst hpv
        exact Uloop most xs (i + 1) m hB' (by omega) (by rw [hm']; exact hlt2) (by rw [hm']; exact hlt.2)
    · rw [pV, if_neg hc] at hpv
      subst hpv
      refine ⟨_, loop_end (t := Sum.inr ⟨xs⟩) ?_⟩
      show column_Reader_Uint_l1 most ((c : Int) :: xs) (n : Int) (i : Int) = _
      unfold column_Reader_Uint_l1
      rw [hby]
      simp only [Option.bind_some, s_inl]
      rw [if_neg (by simp only [decide_eq_true_eq]; omega)]
      by_cases hi9 : i = 9
      · rw [if_pos (by subst hi9; rfl), show decide ((c : Int) < 2) = false by simp; omega, Check_f]; rfl
      · rw [if_neg (by simp; omega), Check_f]; rfl

theorem Uint_is (most : Int) {xs : List Int} (hB : Bs xs) : IsR (column_Reader_Uint ⟨xs⟩ most) (pU most xs) := by
  unfold column_Reader_Uint pU
  have := Uloop most xs 0 0 hB (by omega) (by simp) (by omega)
  simp only [Int.natCast_zero] at this
  rcases this.cases with ⟨a, r, h1, h2⟩ | ⟨h1, s, h2⟩
  · rw [h1]; show _ = _; rw [h2]; rfl
  · rw [h1]; exact ⟨s, by rw [h2]; rfl⟩

theorem pU_some {most : Int} {xs r : List Int} {n : Int} (h : pU most xs = some (n, r)) : (0 ≤ n ∧ n < 18446744073709551616 ∧ n ≤ most) ∧ ∃ p, xs = p ++ r ∧ 0 < p.length := by
  unfold pU at h
  split at h
  · rename_i m r' he
    split at h
    · cases h
      obtain ⟨h1, h2⟩ := pV_lt _ _ _ _ _ (by simp) (by omega) he
      exact ⟨⟨by omega, by omega, by assumption⟩, h2⟩
    · cases h
  · cases h

theorem pU_bs {most : Int} {xs r : List Int} {n : Int} (hB : Bs xs) (h : pU most xs = some (n, r)) : Bs r := by
  obtain ⟨_, p, rfl, _⟩ := pU_some h
  exact hB.r

theorem and_1 (a : Nat) : a &&& 1 = a % 2 := Nat.and_two_pow_sub_one_eq_mod a 1
theorem xor_m1 {a : Nat} (h : a < 9223372036854775808) : ixor .i64 (a : Int) (-1) = -(a : Int) - 1 := by
  show IntKind.i64.wrap (((BitVec.ofInt 64 (a : Int) ^^^ BitVec.allOnes 64).toNat : Nat) : Int) = _
  rw [ofInt_nat, BitVec.xor_allOnes, BitVec.toNat_not, BitVec.toNat_ofNat, Nat.mod_eq_of_lt (show a < 2 ^ 64 by omega), IntWalk.i64_left]
  unfold wrap64
  omega
theorem xor_0 {a : Nat} (h : a < 9223372036854775808) : ixor .i64 (a : Int) 0 = (a : Int) := by
  show IntKind.i64.wrap (((BitVec.ofInt 64 (a : Int) ^^^ 0#64).toNat : Nat) : Int) = _
  rw [ofInt_nat, BitVec.xor_zero, BitVec.toNat_ofNat, Nat.mod_eq_of_lt (show a < 2 ^ 64 by omega), w64 (by omega) (by omega)]
theorem uz_eq {n : Nat} (h : n < 18446744073709551616) : ixor .i64 (IntKind.i64.wrap (ishr .u64 (n : Int) 1)) (IntKind.i64.wrap (0 - IntKind.i64.wrap (iand .u64 (n : Int) 1))) = uz n := by
  have e1 : ishr .u64 (n : Int) 1 = ((n / 2 : Nat) : Int) := ishr_nat (k := .u64) n 1 (by decide)
  have e2 : iand .u64 (n : Int) 1 = ((n % 2 : Nat) : Int) := by
    have := iand_u64 (a := n) (b := 1) h (by omega)
    rw [show ((1 : Nat) : Int) = 1 from rfl] at this
    rw [this, and_1]
  rw [e1, e2, w64 (n := ((n / 2 : Nat) : Int)) (by omega) (by omega), w64 (n := ((n % 2 : Nat) : Int)) (by omega) (by omega), w64 (by omega) (by omega)]
  unfold uz
  by_cases ho : n % 2 = 1
  · rw [if_pos ho, ho, show (0 : Int) - ((1 : Nat) : Int) = -1 from rfl, xor_m1 (by omega)]
  · rw [if_neg ho, show n % 2 = 0 by omega, show (0 : Int) - ((0 : Nat) : Int) = 0 from rfl, xor_0 (by omega)]

theorem Int_is {xs : List Int} (hB : Bs xs) : IsR (column_Reader_Int ⟨xs⟩) (pI xs) := by
  unfold column_Reader_Int pI
  rcases (Uint_is 18446744073709551615 hB).cases with ⟨a, r, h1, h2⟩ | ⟨h1, s, h2⟩
  · rw [h1, h2]
    obtain ⟨⟨q1, q2, _⟩, _⟩ := pU_some h1
    simp only [Option.bind_some, s_inl, lt_]
    have := uz_eq (n := a.toNat) (by omega)
    rw [show ((a.toNat : Nat) : Int) = a by omega] at this
    show _ = _
    rw [this]
  · rw [h1, h2]
    exact ⟨s, rfl⟩
theorem pI_bs {xs r : List Int} {n : Int} (hB : Bs xs) (h : pI xs = some (n, r)) : Bs r ∧ i64 n ∧ ∃ p, xs = p ++ r ∧ 0 < p.length := by
  unfold pI at h
  split at h
  · rename_i m r' he
    cases h
    refine ⟨pU_bs hB he, ?_, (pU_some he).2⟩
    have := (pU_some he).1
    unfold i64 uz
    split <;> omega
  · cases h

theorem Text_is (most : Int) {xs : List Int} (hB : Bs xs) (hl : xs.length < 9223372036854775808) : IsR (column_Reader_Text ⟨xs⟩ most) (pT most xs) := by
  unfold column_Reader_Text pT
  rw [lt_]
  rcases (Uint_is (IntKind.u64.wrap most) hB).cases with ⟨a, r, h1, h2⟩ | ⟨h1, s, h2⟩
  · rw [h1, h2]
    obtain ⟨⟨q1, q2, _⟩, p, hp, _⟩ := pU_some h1
    have hr : r.length ≤ xs.length := by rw [hp]; simp
    simp only [Option.bind_some, s_inl, lt_]
    rw [u64w (by omega) (by omega)]
    obtain ⟨n, rfl⟩ : ∃ n : Nat, a = (n : Int) := ⟨a.toNat, by omega⟩
    by_cases hn : (n : Int) ≤ (r.length : Int)
    · rw [show decide ((n : Int) ≤ (r.length : Int)) = true by simpa using hn, Check_t, if_pos hn]
      simp only [Option.bind_some, s_inl]
      have c1 := cut_nat (xs := r) (l := 0) (u := n) (by omega) (by omega)
      have c2 := cut_nat (xs := r) (l := n) (u := r.length) (by omega) (by omega)
      rw [show ((0 : Nat) : Int) = 0 from rfl, List.drop_zero] at c1
      rw [List.take_length] at c2
      rw [c1]
      simp only [Option.bind_some]
      rw [c2]
      rfl
    · rw [show decide ((n : Int) ≤ (r.length : Int)) = false by simpa using hn, Check_f, if_neg hn]
      exact ⟨_, rfl⟩
  · rw [h1, h2]
    exact ⟨s, rfl⟩

/-! what was laid is read -/
theorem pV_uv : ∀ (k : Nat) (m i n : Nat) (r : List Int), m < 128 ^ (k + 1) → k + i ≤ 9 → m * 2 ^ (7 * i) + n < 18446744073709551616 → (0 < i → 0 < m) → pV i n (uv m ++ r) = some (n + m * 2 ^ (7 * i), r)
  | k, m, i, n, r, h, hi, hlt, h0 => by
    by_cases hm : m < 128
    · rw [uv_small hm, List.singleton_append, pV]
      have h9 : i < 9 ∨ (i = 9 ∧ (m : Int) < 2) := by
        rcases Nat.lt_or_ge i 9 with q | q
        · exact .inl q
        · have : i = 9 := by omega
          subst this
          refine .inr ⟨rfl, ?_⟩
          rcases Nat.lt_or_ge m 2 with q2 | q2
          · omega
          · have : 2 * 2 ^ (7 * 9) ≤ m * 2 ^ (7 * 9) := Nat.mul_le_mul_right _ q2
            omega
      rw [if_pos h9, if_pos (by omega), if_pos (by rcases Nat.eq_zero_or_pos i with q | q; exact .inl q; have := h0 q; exact .inr (by omega)), Int.toNat_natCast, Nat.mod_eq_of_lt hm]
    · rw [uv_large hm, List.cons_append, pV]
      match k, h, hi with
      | 0, h, _ => exact absurd (by simpa using h) hm
      | k + 1, h, hi =>
        rw [if_pos (.inl (by omega)), if_neg (by omega), Int.toNat_natCast, show (m % 128 + 128) % 128 = m % 128 by omega]
        have hp : 2 ^ (7 * (i + 1)) = 128 * 2 ^ (7 * i) := by rw [show 7 * (i + 1) = 7 + 7 * i by omega, Nat.pow_add]
        have hdiv : m / 128 * (128 * 2 ^ (7 * i)) + m % 128 * 2 ^ (7 * i) = m * 2 ^ (7 * i) := by
          rw [← Nat.mul_assoc, ← Nat.add_mul]
          congr 1
          omega
        rw [pV_uv k (m / 128) (i + 1) _ r (by rw [Nat.pow_succ] at h; exact Nat.div_lt_of_lt_mul (by rw [Nat.mul_comm]; exact h)) (by omega) (by rw [hp]; omega) (fun _ => by omega), hp]
        congr 2
        omega
theorem pU_uv {m : Nat} (h : m < 18446744073709551616) (r : List Int) {most : Int} (hm : (m : Int) ≤ most) : pU most (uv m ++ r) = some ((m : Int), r) := by
  unfold pU
  rw [pV_uv 9 m 0 0 r (by omega) (by omega) (by simp; omega) (fun q => absurd q (by omega))]
  simp only [Nat.mul_zero, Nat.pow_zero, Nat.mul_one, Nat.zero_add]
  rw [if_pos hm]
theorem pI_uv {x : Int} (h : i64 x) (r : List Int) : pI (uv (zz x) ++ r) = some (x, r) := by
  unfold pI
  have := zz_lt h
  rw [pU_uv this r (by omega)]
  simp only [Int.toNat_natCast, uz_zz]
end Go.Proofs.Ythokgnonmcgkcaa.P
