/- Numbers and texts as bytes, in plain words; what the program and the document do for them. -/
import Derived.Test.YthokgnonmcgkcaaQa
import Derived.Test.YthokgnonmcgkcaaDb
import Derived.Test.YthokgnonmcgkcaaDc
namespace Go.Proofs.Ythokgnonmcgkcaa.P
open Go Go.RowKit Go.Proofs.Ythokgnonmcgkcaa.E Go.Proofs.Ythokgnonmcgkcaa.M
set_option linter.unusedVariables false

/-- a number, seven bits a byte, the lowest first -/
def uv (n : Nat) : List Int := if h : n < 128 then [(n : Int)] else ((n % 128 + 128 : Nat) : Int) :: uv (n / 128)
termination_by n
decreasing_by omega

theorem uv_small {n : Nat} (h : n < 128) : uv n = [(n : Int)] := by rw [uv, dif_pos h]
theorem uv_large {n : Nat} (h : ¬ n < 128) : uv n = ((n % 128 + 128 : Nat) : Int) :: uv (n / 128) := by rw [uv, dif_neg h]
theorem uv_length : ∀ (k n : Nat), n < 128 ^ (k + 1) → (uv n).length ≤ k + 1
  | 0, n, h => by rw [uv_small (by simpa using h)]; simp
  | k + 1, n, h => by
    by_cases hn : n < 128
    · rw [uv_small hn]; simp
    · rw [uv_large hn, List.length_cons]
      have := uv_length k (n / 128) (by rw [Nat.pow_succ] at h; exact Nat.div_lt_of_lt_mul (by rw [Nat.mul_comm]; exact h))
      omega
theorem uv_length64 {n : Nat} (h : n < 18446744073709551616) : (uv n).length ≤ 10 := uv_length 9 n (by omega)
theorem uv_pos (n : Nat) : 0 < (uv n).length := by
  by_cases hn : n < 128
  · rw [uv_small hn]; simp
  · rw [uv_large hn]; simp

set_option maxRecDepth 100000 in
theorem or_128 : ∀ m : Fin 256, (m.val ||| 128) = m.val % 128 + 128 := by decide

theorem Uint_app (n : Nat) : ∀ (a0 : List Int), n < 18446744073709551616 → a0.length + (uv n).length ≤ 140737488355328 → column_Uint a0 (n : Int) = some (a0 ++ uv n) := by
  induction n using Nat.strongRecOn with
  | _ n ih =>
    intro a0 h hl
    unfold column_Uint
    by_cases hn : n < 128
    · rw [loop_end (t := (a0, (n : Int))) (by
        show column_Uint_l1 a0 (n : Int) = _
        unfold column_Uint_l1
        rw [if_neg (by simp only [decide_eq_true_eq]; omega)])]
      simp only [Option.bind_some]
      unfold column_Uint_x1_0 column_Uint_b1
      rw [uv_small hn] at hl ⊢
      rw [lt_, u8w (by omega) (by omega), chk_pos (by simpa using hl)]
    · have hl' := hl
      rw [uv_large hn, List.length_cons] at hl'
      have e1 : IntKind.u8.wrap (n : Int) = ((n % 256 : Nat) : Int) := u8_nat n
      have e2 : ior .u8 ((n % 256 : Nat) : Int) 128 = ((n % 128 + 128 : Nat) : Int) := by
        have := ior_u8 (a := n % 256) (b := 128) (by omega) (by omega)
        rw [show ((128 : Nat) : Int) = 128 from rfl] at this
        rw [this, or_128 ⟨n % 256, by omega⟩]
        simp only
        omega
      have e3 : ishr .u64 (n : Int) 7 = ((n / 128 : Nat) : Int) := ishr_nat (k := .u64) n 7 (by decide)
      rw [loop_nxt (s' := (a0 ++ [((n % 128 + 128 : Nat) : Int)], ((n / 128 : Nat) : Int))) (by
        show column_Uint_l1 a0 (n : Int) = _
        unfold column_Uint_l1
        rw [if_pos (by simp only [decide_eq_true_eq]; omega), lt_, e1, lt_, e2, chk_pos (by simp; omega), lt_, e3])]
      have := ih (n / 128) (by omega) (a0 ++ [((n % 128 + 128 : Nat) : Int)]) (by omega) (by simp; omega)
      unfold column_Uint at this
      rw [this, uv_large hn]
      simp

theorem rUint_k : ∀ (k n : Nat), n < 128 ^ (k + 1) → n < 18446744073709551616 → r03_Uint_k (k + 1) (n : Int) = some (uv n)
  | k, n, h, h64 => by
    show r03_Uint_s (r03_Uint_k k) (n : Int) = _
    unfold r03_Uint_s
    by_cases hn : n < 128
    · rw [if_pos (by simp only [decide_eq_true_eq]; omega), lt_, u8w (by omega) (by omega), uv_small hn]
    · rw [if_neg (by simp only [decide_eq_true_eq]; omega)]
      match k, h with
      | 0, h => exact absurd (by simpa using h) hn
      | k + 1, h =>
        have e1 : IntKind.u64.wrap ((n : Int).tmod 128 + 128) = ((n % 128 + 128 : Nat) : Int) := by
          rw [show (n : Int).tmod 128 + 128 = ((n % 128 + 128 : Nat) : Int) from rfl, u64w (by omega) (by omega)]
        have e2 : IntKind.u64.wrap ((n : Int).tdiv 128) = ((n / 128 : Nat) : Int) := by
          rw [show (n : Int).tdiv 128 = ((n / 128 : Nat) : Int) from rfl, u64w (by omega) (by omega)]
        rw [lt_, e1, lt_, u8w (by omega) (by omega), lt_, e2, rUint_k k (n / 128) (by rw [Nat.pow_succ] at h; exact Nat.div_lt_of_lt_mul (by rw [Nat.mul_comm]; exact h)) (by omega)]
        simp only [Option.bind_some]
        have := uv_length64 (n := n / 128) (by omega)
        rw [chk_pos (by simp; omega), uv_large hn]
        rfl
theorem rUint_eq (n : Nat) (h : n < 18446744073709551616) : r03_Uint (n : Int) = some (uv n) := rUint_k 11 n (by omega) h

/-- a number with a sign, as one without -/
def zz (i : Int) : Nat := if i < 0 then (-(i + 1)).toNat * 2 + 1 else i.toNat * 2
/-- and back -/
def uz (n : Nat) : Int := if n % 2 = 1 then -((n / 2 : Nat) : Int) - 1 else ((n / 2 : Nat) : Int)
theorem uz_zz (i : Int) : uz (zz i) = i := by unfold uz zz; split <;> split <;> omega
def i64 (i : Int) : Prop := -9223372036854775808 ≤ i ∧ i ≤ 9223372036854775807
theorem zz_lt {i : Int} (h : i64 i) : zz i < 18446744073709551616 := by
  unfold i64 at h
  unfold zz; split <;> omega
theorem i64_wrap (x : Int) : i64 (IntKind.i64.wrap x) := by
  rw [IntWalk.i64_left]; unfold wrap64 i64; omega
theorem xor_ones {a : Nat} (h : a < 18446744073709551616) : ixor .u64 (a : Int) 18446744073709551615 = ((18446744073709551615 - a : Nat) : Int) := by
  show IntKind.u64.wrap (((BitVec.ofInt 64 (a : Int) ^^^ BitVec.allOnes 64).toNat : Nat) : Int) = _
  rw [ofInt_nat, BitVec.xor_allOnes, u64_nat, BitVec.toNat_not, BitVec.toNat_ofNat, Nat.mod_eq_of_lt (show a < 2 ^ 64 by omega)]
  omega
theorem zz_eq {i : Int} (h : i64 i) : ixor .u64 (IntKind.u64.wrap (ishl .i64 i 1)) (IntKind.u64.wrap (ishr .i64 i 63)) = (zz i : Int) := by
  unfold i64 at h
  have e1 : ishl .i64 i 1 = IntKind.i64.wrap (i * 2) := rfl
  have e2 : ishr .i64 i 63 = if i < 0 then -1 else 0 := by
    unfold ishr
    rw [show (63 : Int).toNat = 63 from rfl, show min 63 IntKind.i64.bits = 63 from rfl, Int.fdiv_eq_ediv_of_nonneg _ (by decide)]
    split <;> omega
  rw [e1, e2]
  have e3 : IntKind.u64.wrap (IntKind.i64.wrap (i * 2)) = (i * 2) % 18446744073709551616 := by
    rw [IntKind.wrap_u64, IntWalk.i64_left]; unfold wrap64; omega
  rw [e3]
  unfold zz
  by_cases hi : i < 0
  · rw [if_pos hi, if_pos hi, show IntKind.u64.wrap (-1) = 18446744073709551615 from rfl]
    obtain ⟨m, hm⟩ : ∃ m : Nat, (i * 2) % 18446744073709551616 = (m : Int) := ⟨((i * 2) % 18446744073709551616).toNat, by omega⟩
    rw [hm, xor_ones (by omega)]
    omega
  · rw [if_neg hi, if_neg hi, show IntKind.u64.wrap 0 = ((0 : Nat) : Int) from rfl]
    obtain ⟨m, hm⟩ : ∃ m : Nat, (i * 2) % 18446744073709551616 = (m : Int) := ⟨((i * 2) % 18446744073709551616).toNat, by omega⟩
    rw [hm, ixor_u64 (by omega) (by omega), Nat.xor_zero]
    omega
theorem Int_app {i : Int} (h : i64 i) (a0 : List Int) (hl : a0.length + 10 ≤ 140737488355328) : column_Int a0 i = some (a0 ++ uv (zz i)) := by
  unfold column_Int
  have := uv_length64 (zz_lt h)
  simp only [lt_, zz_eq h, Uint_app _ a0 (zz_lt h) (by omega), Option.bind_some]
theorem rInt_eq {i : Int} (h : i64 i) : r03_Int i = some (uv (zz i)) := by
  have h' := h
  unfold i64 at h'
  unfold r03_Int
  by_cases hi : i < 0
  · rw [if_pos (by simpa using hi)]
    simp only [lt_]
    rw [w64 (n := i + 1) (by omega) (by omega), w64 (n := 0 - (i + 1)) (by omega) (by omega), u64w (n := 0 - (i + 1)) (by omega) (by omega), u64w (n := (0 - (i + 1)) * 2) (by omega) (by omega), u64w (by omega) (by omega),
      show (0 - (i + 1)) * 2 + 1 = (zz i : Int) by unfold zz; rw [if_pos hi]; omega, rUint_eq _ (zz_lt h)]
    rfl
  · rw [if_neg (by simpa using hi)]
    simp only [lt_]
    rw [u64w (n := i) (by omega) (by omega), u64w (by omega) (by omega), show i * 2 = (zz i : Int) by unfold zz; rw [if_neg hi]; omega, rUint_eq _ (zz_lt h)]
    rfl

theorem Text_app (s : List UInt8) (a0 : List Int) (hs : s.length ≤ 9223372036854775807) (hl : a0.length + s.length + 10 ≤ 140737488355328) : column_Text a0 s = some (a0 ++ uv s.length ++ stb s) := by
  unfold column_Text
  have := uv_length64 (n := s.length) (by omega)
  rw [lt_, u64w (by omega) (by omega), Uint_app _ a0 (by omega) (by omega)]
  simp only [Option.bind_some]
  rw [chk_pos (by simp; omega)]
theorem rText_eq (s : List UInt8) (hl : s.length + 10 ≤ 140737488355328) : r03_Text s = some (uv s.length ++ stb s) := by
  unfold r03_Text
  have := uv_length64 (n := s.length) (by omega)
  have hst : (stb s).length = s.length := by simp [stb]
  rw [lt_, u64w (by omega) (by omega), rUint_eq _ (by omega)]
  simp only [Option.bind_some]
  rw [chk_pos (by simp only [maxLen]; omega), chk_pos (by omega)]

/-! bytes -/
def Bs (xs : List Int) : Prop := ∀ b ∈ xs, 0 ≤ b ∧ b < 256
theorem Bs.nil : Bs [] := fun _ h => by cases h
theorem Bs.cons {b : Int} {xs : List Int} (h : Bs (b :: xs)) : (0 ≤ b ∧ b < 256) ∧ Bs xs := ⟨h b List.mem_cons_self, fun c hc => h c (List.mem_cons_of_mem _ hc)⟩
theorem Bs.mk {b : Int} {xs : List Int} (hb : 0 ≤ b ∧ b < 256) (h : Bs xs) : Bs (b :: xs) := fun c hc => by
  rcases List.mem_cons.1 hc with rfl | hc
  · exact hb
  · exact h c hc
theorem Bs.app {xs ys : List Int} (h : Bs xs) (h' : Bs ys) : Bs (xs ++ ys) := fun c hc => (List.mem_append.1 hc).elim (h c) (h' c)
theorem Bs.l {xs ys : List Int} (h : Bs (xs ++ ys)) : Bs xs := fun c hc => h c (List.mem_append.2 (.inl hc))
theorem Bs.r {xs ys : List Int} (h : Bs (xs ++ ys)) : Bs ys := fun c hc => h c (List.mem_append.2 (.inr hc))
theorem Bs.drop {xs : List Int} (h : Bs xs) (n : Nat) : Bs (xs.drop n) := fun c hc => h c (List.mem_of_mem_drop hc)
theorem Bs.take {xs : List Int} (h : Bs xs) (n : Nat) : Bs (xs.take n) := fun c hc => h c (List.mem_of_mem_take hc)
theorem Bs.uv (n : Nat) : Bs (uv n) := by
  induction n using Nat.strongRecOn with
  | _ n ih =>
    by_cases hn : n < 128
    · rw [uv_small hn]; exact Bs.mk (by omega) Bs.nil
    · rw [uv_large hn]; exact Bs.mk (by omega) (ih _ (by omega))
theorem Bs.stb (s : List UInt8) : Bs (stb s) := by
  intro c hc
  unfold E.stb at hc
  obtain ⟨b, _, rfl⟩ := List.mem_map.1 hc
  have := b.toNat_lt
  omega
end Go.Proofs.Ythokgnonmcgkcaa.P
