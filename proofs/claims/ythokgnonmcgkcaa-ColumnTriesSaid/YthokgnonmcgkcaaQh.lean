/- What whole numbers are read of any bytes, in plain words. -/
import Derived.Test.YthokgnonmcgkcaaQg
namespace Go.Proofs.Ythokgnonmcgkcaa.P
open Go Go.RowKit Go.Proofs.Ythokgnonmcgkcaa.E Go.Proofs.Ythokgnonmcgkcaa.M
set_option linter.unusedVariables false

def pMany : Nat → List Int → Option (List Int × List Int)
  | 0, xs => some ([], xs)
  | n + 1, xs => match pI xs with
    | some (x, r) => match pMany n r with
      | some (l, r') => some (x :: l, r')
      | none => none
    | none => none
def pD : Int → Nat → List Int → Option (List Int × List Int)
  | _, 0, xs => some ([], xs)
  | a, n + 1, xs => match pI xs with
    | some (x, r) => match pD (IntKind.i64.wrap (a + x)) n r with
      | some (l, r') => some (IntKind.i64.wrap (a + x) :: l, r')
      | none => none
    | none => none
/-- so many are left; the first number is how many rounds there may be -/
def pR : Nat → Nat → List Int → Option (List Int × List Int)
  | 0, _, xs => some ([], xs)
  | f + 1, n, xs => if n = 0 then some ([], xs) else match pI xs with
    | some (x, r) => match pU ((n - 1 : Nat) : Int) r with
      | some (k, r') => match pR f (n - (k.toNat + 1)) r' with
        | some (l, r'') => some (List.replicate (k.toNat + 1) x ++ l, r'')
        | none => none
      | none => none
    | none => none
def toN (xs : List Int) : List Nat := xs.map Int.toNat
def part (n w v : Nat) : List Int := (List.range n).map fun q => IntKind.i64.wrap ((v / 2 ^ (q * w) % 2 ^ w : Nat) : Int)
def pP (n : Nat) (xs : List Int) : Option (List Int × List Int) := match pI xs with
  | some (lo, r) => match pB r with
    | some (w, r') => if w ≤ 64 ∧ r'.length = (n * w.toNat + 7) / 8 ∧ V 8 (toN r') < 2 ^ (n * w.toNat) then some ((part n w.toNat (V 8 (toN r'))).map fun x => IntKind.i64.wrap (x + lo), []) else none
    | none => none
  | none => none
def pBody (w : Int) (n : Nat) (r : List Int) : Option (List Int × List Int) :=
  if w = 0 then pMany n r else if w = 1 then pD 0 n r else if w = 2 then pR n n r else if 0 < n then pP n r else some ([], r)
def pInts (xs : List Int) : Option (List Int × List Int) := match pB xs with
  | some (w, r) => if w ≤ 3 then (match pU 4096 r with
    | some (n, r') => pBody w n.toNat r'
    | none => none) else none
  | none => none

theorem pB_bs {xs r : List Int} {b : Int} (hB : Bs xs) (h : pB xs = some (b, r)) : (0 ≤ b ∧ b < 256) ∧ Bs r ∧ xs = b :: r := by
  cases xs with
  | nil => cases h
  | cons c xs => cases h; exact ⟨hB.cons.1, hB.cons.2, rfl⟩

/-! plain -/
theorem list_loop (n : Nat) (hn : n ≤ 4096) : ∀ (m k : Nat) (acc xs : List Int), Bs xs → k + m = n → acc.length = k →
    ∃ y, loop (fun s : List Int × List Int × Int => column_list_int64_l1 (n : Int) s.1 s.2.1 s.2.2) (xs, acc, (k : Int)) = some y ∧ match pMany m xs with
      | some (l, r) => y = .inl (r, acc ++ l)
      | none => ∃ s, y = .inr (.inr s)
  | 0, k, acc, xs, hB, hk, ha => by
    refine ⟨_, loop_end (t := Sum.inl (xs, acc)) ?_, by simp [pMany]⟩
    show column_list_int64_l1 (n : Int) xs acc (k : Int) = _
    unfold column_list_int64_l1
    rw [if_neg (by simp only [decide_eq_true_eq]; omega)]
  | m + 1, k, acc, xs, hB, hk, ha => by
    unfold pMany
    rcases (Int_is hB).cases with ⟨x, r, h1, h2⟩ | ⟨h1, s, h2⟩
    · rw [h1]
      obtain ⟨y, hy, hm⟩ := list_loop n hn m (k + 1) (acc ++ [x]) r (pI_bs hB h1).1 (by omega) (by simp [ha])
      refine ⟨y, (loop_nxt (s' := (r, acc ++ [x], ((k + 1 : Nat) : Int))) ?_).trans hy, ?_⟩
      · show column_list_int64_l1 (n : Int) xs acc (k : Int) = _
        unfold column_list_int64_l1
        rw [if_pos (by simp only [decide_eq_true_eq]; omega), h2]
        simp only [Option.bind_some, s_inl, lt_]
        rw [chk_pos (by simp; omega), w64 (by omega) (by omega)]
        rfl
      · simp only
        revert hm
        cases pMany m r with
        | none => exact id
        | some q => intro hm; simpa using hm
    · rw [h1]
      refine ⟨_, loop_end (t := Sum.inr (.inr s)) ?_, s, rfl⟩
      show column_list_int64_l1 (n : Int) xs acc (k : Int) = _
      unfold column_list_int64_l1
      rw [if_pos (by simp only [decide_eq_true_eq]; omega), h2]
      rfl
theorem list_is {n : Nat} (hn : n ≤ 4096) {xs : List Int} (hB : Bs xs) : IsR (column_list_int64 (n : Int) ⟨xs⟩) (pMany n xs) := by
  obtain ⟨y, hy, hm⟩ := list_loop n hn n 0 [] xs hB (by omega) rfl
  unfold column_list_int64
  rw [show (0 : Int) = ((0 : Nat) : Int) from rfl, hy]
  simp only [Option.bind_some]
  revert hm
  cases pMany n xs with
  | none => rintro ⟨s, rfl⟩; exact ⟨s, rfl⟩
  | some q => intro hm; subst hm; rfl

/-! differences -/
theorem dl_loop (n : Nat) (hn : n ≤ 4096) : ∀ (m k : Nat) (a : Int) (acc xs : List Int), Bs xs → k + m = n → acc.length = k →
    ∃ y, loop (fun s : List Int × List Int × Int × Int => column_ints_l1 (n : Int) s.1 s.2.1 s.2.2.1 s.2.2.2) (xs, acc, a, (k : Int)) = some y ∧ match pD a m xs with
      | some (l, r) => y = .inl (r, acc ++ l)
      | none => ∃ s, y = .inr (.inr s)
  | 0, k, a, acc, xs, hB, hk, ha => by
    refine ⟨_, loop_end (t := Sum.inl (xs, acc)) ?_, by simp [pD]⟩
    show column_ints_l1 (n : Int) xs acc a (k : Int) = _
    unfold column_ints_l1
    rw [if_neg (by simp only [decide_eq_true_eq]; omega)]
  | m + 1, k, a, acc, xs, hB, hk, ha => by
    unfold pD
    rcases (Int_is hB).cases with ⟨x, r, h1, h2⟩ | ⟨h1, s, h2⟩
    · rw [h1]
      obtain ⟨y, hy, hm⟩ := dl_loop n hn m (k + 1) (IntKind.i64.wrap (a + x)) (acc ++ [IntKind.i64.wrap (a + x)]) r (pI_bs hB h1).1 (by omega) (by simp [ha])
      refine ⟨y, (loop_nxt (s' := (r, acc ++ [IntKind.i64.wrap (a + x)], IntKind.i64.wrap (a + x), ((k + 1 : Nat) : Int))) ?_).trans hy, ?_⟩
      · show column_ints_l1 (n : Int) xs acc a (k : Int) = _
        unfold column_ints_l1
        rw [if_pos (by simp only [decide_eq_true_eq]; omega), h2]
        simp only [Option.bind_some, s_inl, lt_]
        rw [chk_pos (by simp; omega), w64 (n := (k : Int) + 1) (by omega) (by omega)]
        rfl
      · simp only
        revert hm
        cases pD (IntKind.i64.wrap (a + x)) m r with
        | none => exact id
        | some q => intro hm; simpa using hm
    · rw [h1]
      refine ⟨_, loop_end (t := Sum.inr (.inr s)) ?_, s, rfl⟩
      show column_ints_l1 (n : Int) xs acc a (k : Int) = _
      unfold column_ints_l1
      rw [if_pos (by simp only [decide_eq_true_eq]; omega), h2]
      rfl

/-! runs -/
theorem rep_loop (y : Int × S72) (k : Nat) (acc : List Int) (h : acc.length + k ≤ 8192) : loop (fun s : List Int × Int => column_ints_l3 y (k : Int) s.1 s.2) (acc, 0) = some (acc ++ List.replicate k y.1) := by
  have := loop_to (b := fun s : List Int × Int => column_ints_l3 y (k : Int) s.1 s.2) (fun j => (acc ++ List.replicate j y.1, (j : Int))) (t := acc ++ List.replicate k y.1) k (fun j hj => by
    show column_ints_l3 y (k : Int) (acc ++ List.replicate j y.1) (j : Int) = _
    unfold column_ints_l3
    rw [if_pos (by simp only [decide_eq_true_eq]; omega), chk_pos (by simp; omega), lt_, u64w (by omega) (by omega), List.replicate_succ', List.append_assoc]
    rfl) (by
    show column_ints_l3 y (k : Int) (acc ++ List.replicate k y.1) (k : Int) = _
    unfold column_ints_l3
    rw [if_neg (by simp)])
  simpa using this

theorem rl_loop (n : Nat) (hn : n ≤ 4096) : ∀ (f m : Nat) (acc xs : List Int), Bs xs → acc.length + m = n → m ≤ f →
    ∃ y, loop (fun s : List Int × List Int => column_ints_l2 (n : Int) s.1 s.2) (xs, acc) = some y ∧ match pR f m xs with
      | some (l, r) => y = .inl (r, acc ++ l)
      | none => ∃ s, y = .inr (.inr s)
  | 0, m, acc, xs, hB, hk, hf => by
    refine ⟨_, loop_end (t := Sum.inl (xs, acc)) ?_, by simp [pR]⟩
    show column_ints_l2 (n : Int) xs acc = _
    unfold column_ints_l2
    rw [if_neg (by simp only [decide_eq_true_eq]; omega)]
  | f + 1, m, acc, xs, hB, hk, hf => by
    unfold pR
    by_cases hm0 : m = 0
    · rw [if_pos hm0]
      refine ⟨_, loop_end (t := Sum.inl (xs, acc)) ?_, by simp⟩
      show column_ints_l2 (n : Int) xs acc = _
      unfold column_ints_l2
      rw [if_neg (by simp only [decide_eq_true_eq]; omega)]
    · rw [if_neg hm0]
      rcases (Int_is hB).cases with ⟨x, r, h1, h2⟩ | ⟨h1, s, h2⟩
      · rw [h1]
        simp only
        have hBr := (pI_bs hB h1).1
        have e1 : IntKind.u64.wrap (IntKind.i64.wrap (IntKind.i64.wrap ((n : Int) - (acc.length : Int)) - 1)) = ((m - 1 : Nat) : Int) := by
          rw [w64 (n := (n : Int) - (acc.length : Int)) (by omega) (by omega), w64 (by omega) (by omega), u64w (by omega) (by omega)]
          omega
        rcases (Uint_is ((m - 1 : Nat) : Int) hBr).cases with ⟨k, r', h3, h4⟩ | ⟨h3, s, h4⟩
        · rw [h3]
          simp only
          obtain ⟨q1, q2, q3⟩ := (pU_some h3).1
          obtain ⟨c, rfl⟩ : ∃ c : Nat, k = (c : Int) := ⟨k.toNat, by omega⟩
          rw [Int.toNat_natCast]
          obtain ⟨y, hy, hm⟩ := rl_loop n hn f (m - (c + 1)) (acc ++ List.replicate (c + 1) x) r' (pU_bs hBr h3) (by simp; omega) (by omega)
          refine ⟨y, (loop_nxt (s' := (r', acc ++ List.replicate (c + 1) x)) ?_).trans hy, ?_⟩
          · show column_ints_l2 (n : Int) xs acc = _
            unfold column_ints_l2
            rw [if_pos (by simp only [decide_eq_true_eq]; omega), h2]
            simp only [Option.bind_some, s_inl, lt_]
            rw [e1, h4]
            simp only [Option.bind_some, s_inl]
            rw [u64w (by omega) (by omega), show (1 : Int) + (c : Int) = ((c + 1 : Nat) : Int) by omega, rep_loop _ _ _ (by omega)]
            rfl
          · revert hm
            cases pR f (m - (c + 1)) r' with
            | none => exact id
            | some q => intro hm; simpa using hm
        · rw [h3]
          refine ⟨_, loop_end (t := Sum.inr (.inr s)) ?_, s, rfl⟩
          show column_ints_l2 (n : Int) xs acc = _
          unfold column_ints_l2
          rw [if_pos (by simp only [decide_eq_true_eq]; omega), h2]
          simp only [Option.bind_some, s_inl, lt_]
          rw [e1, h4]
          rfl
      · rw [h1]
        refine ⟨_, loop_end (t := Sum.inr (.inr s)) ?_, s, rfl⟩
        show column_ints_l2 (n : Int) xs acc = _
        unfold column_ints_l2
        rw [if_pos (by simp only [decide_eq_true_eq]; omega), h2]
        rfl

/-! packed -/
theorem toN_get {xs : List Int} (hB : Bs xs) {j : Nat} (h : j < xs.length) : ∃ b : Nat, xs[j]? = some (b : Int) ∧ (toN xs)[j]? = some b ∧ b < 256 := by
  have hx := List.getElem?_eq_getElem h
  have := hB _ (List.mem_of_getElem? hx)
  refine ⟨xs[j].toNat, by rw [hx]; congr 1; omega, by simp [toN, hx], by omega⟩
theorem toN_lt {xs : List Int} (hB : Bs xs) : Lt 8 (toN xs) := by
  intro d hd
  obtain ⟨b, hb, rfl⟩ := List.mem_map.1 hd
  have := hB b hb
  omega
theorem part_length (n w v : Nat) : (part n w v).length = n := by simp [part]
theorem part_get {n w v q : Nat} (h : q < n) : (part n w v)[q]? = some (IntKind.i64.wrap ((v / 2 ^ (q * w) % 2 ^ w : Nat) : Int)) := by
  unfold part
  rw [List.getElem?_map, List.getElem?_range h]; rfl
theorem ext_int {xs ys : List Int} (hl : xs.length = ys.length) (h : ∀ j : Nat, j < xs.length → xs[j]? = ys[j]?) : xs = ys := by
  apply List.ext_getElem? fun j => ?_
  rcases Nat.lt_or_ge j xs.length with hj | hj
  · exact h j hj
  · rw [List.getElem?_eq_none hj, List.getElem?_eq_none (by omega)]
theorem ofInt_wrap (a : Nat) : BitVec.ofInt 64 (IntKind.i64.wrap (a : Int)) = BitVec.ofNat 64 a := by
  apply BitVec.eq_of_toNat_eq
  rw [BitVec.toNat_ofInt, BitVec.toNat_ofNat, IntWalk.i64_left]
  unfold wrap64
  omega
theorem ior_wrap (a b : Nat) (ha : a < 18446744073709551616) (hb : b < 18446744073709551616) : ior .i64 (IntKind.i64.wrap (a : Int)) (IntKind.i64.wrap (b : Int)) = IntKind.i64.wrap ((a ||| b : Nat) : Int) := by
  show IntKind.i64.wrap (((BitVec.ofInt 64 (IntKind.i64.wrap (a : Int)) ||| BitVec.ofInt 64 (IntKind.i64.wrap (b : Int))).toNat : Nat) : Int) = _
  rw [ofInt_wrap, ofInt_wrap, BitVec.toNat_or, BitVec.toNat_ofNat, BitVec.toNat_ofNat, Nat.mod_eq_of_lt (show a < 2 ^ 64 by omega), Nat.mod_eq_of_lt (show b < 2 ^ 64 by omega)]
theorem part_step {n w v i : Nat} (hw : 0 < w) (h : i / w < n) : (part n w (v % 2 ^ i)).set (i / w) (IntKind.i64.wrap ((v % 2 ^ i / 2 ^ (i / w * w) % 2 ^ w + bt v i * 2 ^ (i % w) : Nat) : Int)) = part n w (v % 2 ^ (i + 1)) := by
  refine ext_int (by simp [part_length]) fun j hj => ?_
  rw [List.length_set, part_length] at hj
  rw [part_get hj]
  by_cases e : i / w = j
  · subst e
    rw [List.getElem?_set_self (by rw [part_length]; exact hj), (part_new v i w hw).1]
  · rw [List.getElem?_set_ne e, part_get hj, part_same v i j w hw (Ne.symm e)]

theorem unpack_loop {n w : Nat} (hn : n ≤ 4096) (hw : w ≤ 64) {xs : List Int} (hB : Bs xs) (hlen : xs.length = (n * w + 7) / 8) :
    ∃ y, loop (fun s : List Int × List Int × Int => column_unpack_l2 (n : Int) (w : Int) ((8 * xs.length : Nat) : Int) s.1 s.2.1 s.2.2) (xs, List.replicate n 0, 0) = some y ∧
      ((V 8 (toN xs) < 2 ^ (n * w) ∧ y = .inl (xs, part n w (V 8 (toN xs)))) ∨ (¬ V 8 (toN xs) < 2 ^ (n * w) ∧ ∃ s, y = .inr (.inr s))) := by
  have hnw : n * w ≤ 4096 * 64 := Nat.mul_le_mul hn hw
  have hL := toN_lt hB
  have hvt : V 8 (toN xs) < 2 ^ (8 * xs.length) := by
    have := V_lt hL
    rw [show (toN xs).length = xs.length by simp [toN], Nat.mul_comm] at this
    exact this
  obtain ⟨v, hv⟩ : ∃ v, v = V 8 (toN xs) := ⟨_, rfl⟩
  have hbt : ∀ j t b, (toN xs)[j]? = some b → t < 8 → bt v (j * 8 + t) = bt b t := fun j t b hb ht => by rw [hv]; exact bt_V hL hb ht
  rw [← hv] at hvt ⊢
  clear hv hL
  refine loop_good (b := fun s : List Int × List Int × Int => column_unpack_l2 (n : Int) (w : Int) ((8 * xs.length : Nat) : Int) s.1 s.2.1 s.2.2) (s := (xs, List.replicate n 0, 0))
    (fun s => ∃ i : Nat, s = (xs, part n w (v % 2 ^ i), (i : Int)) ∧ i ≤ 8 * xs.length ∧ (n * w ≤ i → v % 2 ^ i < 2 ^ (n * w))) (fun s => (((8 * xs.length : Nat) : Int) - s.2.2).toNat)
    (fun y => (v < 2 ^ (n * w) ∧ y = .inl (xs, part n w v)) ∨ (¬ v < 2 ^ (n * w) ∧ ∃ s, y = .inr (.inr s))) ⟨0, ?_, by omega, fun _ => by rw [Nat.pow_zero, Nat.mod_one]; exact Nat.two_pow_pos _⟩ ?_
  · rw [Nat.pow_zero, Nat.mod_one, show part n w 0 = List.replicate n 0 by
      unfold part
      rw [List.eq_replicate_iff]
      refine ⟨by simp, fun b hb => ?_⟩
      obtain ⟨q, _, rfl⟩ := List.mem_map.1 hb
      simp
      rfl]
    rfl
  · rintro s ⟨i, rfl, hit, hz⟩
    show (∃ s', column_unpack_l2 (n : Int) (w : Int) ((8 * xs.length : Nat) : Int) xs (part n w (v % 2 ^ i)) (i : Int) = some (.inl s') ∧ _) ∨ ∃ t, column_unpack_l2 (n : Int) (w : Int) ((8 * xs.length : Nat) : Int) xs (part n w (v % 2 ^ i)) (i : Int) = some (.inr t) ∧ _
    unfold column_unpack_l2
    by_cases hlt : i < 8 * xs.length
    · obtain ⟨b, hb1, hb2, hb3⟩ := toN_get hB (j := i / 8) (by omega)
      have hbit := hbt (i / 8) (i % 8) b hb2 (by omega)
      rw [show i / 8 * 8 + i % 8 = i by omega] at hbit
      have hb := bt_lt v i
      have e1 : ishr .u8 (b : Int) ((i % 8 : Nat) : Int) = ((b / 2 ^ (i % 8) : Nat) : Int) := ishr_nat (k := .u8) b (i % 8) (by show _ ≤ 8; omega)
      have e0 : b / 2 ^ (i % 8) ≤ b := Nat.div_le_self _ _
      have e2 : iand .u64 ((b / 2 ^ (i % 8) : Nat) : Int) 1 = ((bt v i : Nat) : Int) := by
        have := iand_u64 (a := b / 2 ^ (i % 8)) (b := 1) (by omega) (by omega)
        rw [show ((1 : Nat) : Int) = 1 from rfl] at this
        rw [this, and_1, hbit]; rfl
      rw [if_pos (by simp only [decide_eq_true_eq]; omega), lt_, show (i : Int).tdiv 8 = ((i / 8 : Nat) : Int) from rfl, w64 (by omega) (by omega), at_int rfl hb1]
      simp only [Option.bind_some, lt_]
      rw [show (i : Int).tmod 8 = ((i % 8 : Nat) : Int) from rfl, chk_pos (by omega), e1, u64w (Int.natCast_nonneg _) (by omega), e2, ← Int.natCast_mul, w64 (n := ((n * w : Nat) : Int)) (by omega) (by omega)]
      by_cases hin : i < n * w
      · -- a bit of a number
        have hw0 : 0 < w := by rcases Nat.eq_zero_or_pos w with h | h; rw [h] at hin; simp at hin; exact h
        have hq : i / w < n := (Nat.div_lt_iff_lt_mul hw0).2 hin
        have hk : i % w < w := Nat.mod_lt _ hw0
        rw [if_neg (by simp only [decide_eq_true_eq]; omega), chk_pos (by omega), show (i : Int).tdiv (w : Int) = ((i / w : Nat) : Int) from rfl, w64 (n := ((i / w : Nat) : Int)) (Int.le_trans (by decide) (Int.natCast_nonneg _)) (by omega), at_int rfl (part_get hq)]
        simp only [Option.bind_some]
        obtain ⟨hnew, hcur⟩ := part_new v i w hw0
        have hstep := part_step (v := v) hw0 hq
        have hp : 2 ^ (i % w) ≤ 2 ^ 63 := Nat.pow_le_pow_right (by decide) (by omega)
        have hbp : bt v i * 2 ^ (i % w) ≤ 1 * 2 ^ (i % w) := Nat.mul_le_mul_right _ (by omega)
        have hm : bt v i * 2 ^ (i % w) % 18446744073709551616 = bt v i * 2 ^ (i % w) := Nat.mod_eq_of_lt (by omega)
        rw [chk_pos (by omega), show (i : Int).tmod (w : Int) = ((i % w : Nat) : Int) from rfl, chk_pos (by omega), ishl_u64 _ _ (by omega), hm, ior_wrap _ _ (by omega) (by omega), or_top hcur, Int.toNat_natCast, hstep]
        unfold column_unpack_b3
        rw [lt_, w64 (n := (i : Int) + 1) (by omega) (by omega)]
        exact .inl ⟨_, rfl, ⟨i + 1, rfl, by omega, fun h => by
          have h1 : v % 2 ^ (i + 1) < 2 ^ (i + 1) := Nat.mod_lt _ (Nat.two_pow_pos _)
          have h2 : i + 1 = n * w := by omega
          rw [h2] at h1 ⊢
          exact h1⟩, by simp only; omega⟩
      · rw [if_pos (by simp only [decide_eq_true_eq]; omega)]
        have hms := mod_succ v i
        by_cases hb0 : bt v i = 0
        · rw [hb0, show (((0 : Nat) : Int) == 0) = true from rfl, Check_t]
          simp only [Option.bind_some, s_inl]
          unfold column_unpack_b3
          rw [lt_, w64 (n := (i : Int) + 1) (by omega) (by omega)]
          rw [hb0, Nat.zero_mul, Nat.add_zero] at hms
          exact .inl ⟨_, rfl, ⟨i + 1, by rw [hms]; rfl, by omega, fun _ => by rw [hms]; exact hz (by omega)⟩, by simp only; omega⟩
        · have hb1' : bt v i = 1 := by omega
          rw [hb1', show (((1 : Nat) : Int) == 0) = false from rfl, Check_f]
          refine .inr ⟨_, rfl, .inr ⟨fun hlt' => ?_, _, rfl⟩⟩
          have h1 : 2 ^ (n * w) ≤ 2 ^ i := Nat.pow_le_pow_right (by decide) (by omega)
          unfold bt at hb1'
          rw [Nat.div_eq_of_lt (by omega)] at hb1'
          cases hb1'
    · have hie : i = 8 * xs.length := by omega
      rw [if_neg (by simp only [decide_eq_true_eq]; omega)]
      have hvv : v % 2 ^ i = v := Nat.mod_eq_of_lt (by rw [hie]; exact hvt)
      rw [hvv]
      refine .inr ⟨_, rfl, .inl ⟨?_, rfl⟩⟩
      have := hz (by omega)
      rwa [hvv] at this

theorem unpack_add (lo : Int) (y : Int × S72) (hy : y.1 = lo) (L : List Int) (h : L.length ≤ 4096) : loop (fun s : List Int × Int => column_unpack_l1 y L s.1 s.2) (L, 0) = some (L.map fun x => IntKind.i64.wrap (x + lo)) := by
  have := loop_to (b := fun s : List Int × Int => column_unpack_l1 y L s.1 s.2) (fun k => ((L.take k).map (fun x => IntKind.i64.wrap (x + lo)) ++ L.drop k, (k : Int))) (t := L.map fun x => IntKind.i64.wrap (x + lo)) L.length (fun k hk => by
    have hx := List.getElem?_eq_getElem hk
    have hd : L.drop k = L[k] :: L.drop (k + 1) := List.drop_eq_getElem_cons hk
    have hlen : ((L.take k).map (fun x => IntKind.i64.wrap (x + lo))).length = k := by simp; omega
    show column_unpack_l1 y L ((L.take k).map (fun x => IntKind.i64.wrap (x + lo)) ++ L.drop k) (k : Int) = _
    unfold column_unpack_l1
    rw [if_pos (by simp only [decide_eq_true_eq]; omega), at_int (n := k) (x := L[k]) rfl (by rw [List.getElem?_append_right (by omega), hlen, Nat.sub_self, hd]; rfl)]
    simp only [Option.bind_some, lt_]
    rw [hy, w64 (n := (k : Int) + 1) (by omega) (by omega), Int.toNat_natCast, take_snoc hx, List.map_append, List.append_assoc, List.set_append_right _ _ (by omega), hlen, Nat.sub_self, hd]
    rfl) (by
    show column_unpack_l1 y L _ (L.length : Int) = _
    unfold column_unpack_l1
    rw [if_neg (by simp), List.take_length, List.drop_length, List.append_nil])
  simpa using this

theorem unpack_is {n : Nat} (hn : n ≤ 4096) {xs : List Int} (hB : Bs xs) (hl : xs.length < 1099511627776) : IsR (column_unpack ⟨xs⟩ (n : Int)) (pP n xs) := by
  unfold column_unpack pP
  rcases (Int_is hB).cases with ⟨lo, r, h1, h2⟩ | ⟨h1, s, h2⟩
  · rw [h1, h2]
    obtain ⟨hBr, hlo, p, hp, _⟩ := pI_bs hB h1
    have hrl : r.length ≤ xs.length := by rw [hp]; simp
    simp only [Option.bind_some, s_inl]
    rcases (IsR.cases (Byte_is r)) with ⟨wb, r', h3, h4⟩ | ⟨h3, s, h4⟩
    · rw [h3, h4]
      obtain ⟨hwb, hBr', hr'⟩ := pB_bs hBr h3
      have hrl' : r'.length ≤ r.length := by rw [hr']; simp
      obtain ⟨w, rfl⟩ : ∃ w : Nat, wb = (w : Int) := ⟨wb.toNat, by omega⟩
      simp only [Option.bind_some, s_inl, lt_, Int.toNat_natCast]
      rw [w64 (n := (w : Int)) (by omega) (by omega)]
      by_cases hw : w ≤ 64
      · have hnw : n * w ≤ 4096 * 64 := Nat.mul_le_mul hn hw
        rw [if_pos (by simp only [decide_eq_true_eq]; omega), ← Int.natCast_mul, w64 (n := ((n * w : Nat) : Int)) (by omega) (by omega), w64 (n := ((n * w : Nat) : Int) + 7) (by omega) (by omega),
          show (((n * w : Nat) : Int) + 7).tdiv 8 = (((n * w + 7) / 8 : Nat) : Int) from rfl, w64 (by omega) (by omega)]
        by_cases hlen : r'.length = (n * w + 7) / 8
        · rw [show ((r'.length : Int) == (((n * w + 7) / 8 : Nat) : Int)) = true by rw [hlen]; simp, Check_t]
          simp only [Option.bind_some, s_inl]
          unfold column_unpack_j1
          rw [chk_pos (by omega), lt_, w64 (by omega) (by omega), Int.toNat_natCast]
          obtain ⟨y, hy, hcase⟩ := unpack_loop hn hw hBr' hlen
          rw [show (8 : Int) * (r'.length : Int) = ((8 * r'.length : Nat) : Int) by omega, hy]
          simp only [Option.bind_some]
          rcases hcase with ⟨hv, rfl⟩ | ⟨hv, s, rfl⟩
          · rw [if_pos ⟨by omega, hlen, hv⟩]
            simp only
            unfold column_unpack_x2_0 column_unpack_b1
            rw [unpack_add lo _ rfl _ (by rw [part_length]; exact hn)]
            rfl
          · rw [if_neg (fun q => hv q.2.2)]
            exact ⟨s, rfl⟩
        · rw [show ((r'.length : Int) == (((n * w + 7) / 8 : Nat) : Int)) = false by simp; omega, Check_f, if_neg (fun q => hlen q.2.1)]
          exact ⟨_, rfl⟩
      · rw [if_neg (by simp only [decide_eq_true_eq]; omega), Check_f, if_neg (fun q => hw (by omega))]
        exact ⟨_, rfl⟩
    · rw [h3, h4]
      exact ⟨s, rfl⟩
  · rw [h1, h2]
    exact ⟨s, rfl⟩

theorem ints_is {xs : List Int} (hB : Bs xs) (hl : xs.length < 1099511627776) : IsR (column_ints ⟨xs⟩) (pInts xs) := by
  unfold column_ints pInts
  rcases (IsR.cases (Byte_is xs)) with ⟨w, r, h1, h2⟩ | ⟨h1, s, h2⟩
  · rw [h1, h2]
    obtain ⟨hw, hBr, hr⟩ := pB_bs hB h1
    have hrl : r.length ≤ xs.length := by rw [hr]; simp
    simp only [Option.bind_some, s_inl]
    by_cases hw3 : w ≤ 3
    · rw [show decide (w ≤ 3) = true by simpa using hw3, Check_t, if_pos hw3]
      simp only [Option.bind_some, s_inl]
      rcases (Uint_is 4096 hBr).cases with ⟨n, r', h3, h4⟩ | ⟨h3, s, h4⟩
      · rw [h3, h4]
        obtain ⟨⟨q1, q2, q3⟩, p, hp, _⟩ := pU_some h3
        have hBr' := pU_bs hBr h3
        have hrl' : r'.length ≤ r.length := by rw [hp]; simp
        obtain ⟨n, rfl⟩ : ∃ m : Nat, n = (m : Int) := ⟨n.toNat, by omega⟩
        simp only [Option.bind_some, s_inl, lt_, Int.toNat_natCast]
        rw [w64 (by omega) (by omega)]
        unfold pBody
        by_cases w0 : w = 0
        · rw [if_pos (by simpa using w0), if_pos w0]
          rcases (list_is (n := n) (by omega) hBr').cases with ⟨l, r'', h5, h6⟩ | ⟨h5, s, h6⟩
          · rw [h5, h6]; rfl
          · rw [h5, h6]; exact ⟨s, rfl⟩
        rw [if_neg (by simpa using w0), if_neg w0]
        by_cases w1 : w = 1
        · rw [if_pos (by simpa using w1), if_pos w1]
          obtain ⟨y, hy, hm⟩ := dl_loop n (by omega) n 0 0 [] r' hBr' (by omega) rfl
          rw [show ((0 : Nat) : Int) = 0 from rfl] at hy
          rw [hy]
          revert hm
          cases pD 0 n r' with
          | none => rintro ⟨s, rfl⟩; exact ⟨s, rfl⟩
          | some q => intro hm; subst hm; rfl
        rw [if_neg (by simpa using w1), if_neg w1]
        by_cases w2 : w = 2
        · rw [if_pos (by simpa using w2), if_pos w2]
          obtain ⟨y, hy, hm⟩ := rl_loop n (by omega) n n [] r' hBr' (by simp) (Nat.le_refl _)
          rw [hy]
          revert hm
          cases pR n n r' with
          | none => rintro ⟨s, rfl⟩; exact ⟨s, rfl⟩
          | some q => intro hm; subst hm; rfl
        rw [if_neg (by simpa using w2), if_neg w2, if_pos (by simp; omega)]
        by_cases hn0 : 0 < n
        · rw [if_pos (by simp only [decide_eq_true_eq]; omega), if_pos hn0]
          rcases (unpack_is (n := n) (by omega) hBr' (by omega)).cases with ⟨l, r'', h5, h6⟩ | ⟨h5, s, h6⟩
          · rw [h5, h6]; rfl
          · rw [h5, h6]; exact ⟨s, rfl⟩
        · rw [if_neg (by simp only [decide_eq_true_eq]; omega), if_neg hn0]
          rfl
      · rw [h3, h4]
        exact ⟨s, rfl⟩
    · rw [show decide (w ≤ 3) = false by simpa using hw3, Check_f, if_neg hw3]
      exact ⟨_, rfl⟩
  · rw [h1, h2]
    exact ⟨s, rfl⟩

/-- what whole numbers some bytes are -/
def readL (xs : List Int) : Option (List Int) := match pInts xs with
  | some (l, []) => some l
  | _ => none
theorem ReadInts_col {xs : List Int} (hB : Bs xs) (hl : xs.length < 1099511627776) : column_ReadInts xs = some (match readL xs with | some l => (l, 0) | none => ([], 3)) := by
  unfold column_ReadInts Try_column_ReadInts_1 column_ReadInts_1 readL
  rcases (ints_is hB hl).cases with ⟨l, r, h1, h2⟩ | ⟨h1, s, h2⟩
  · rw [h1, h2]
    simp only [Option.bind_some, s_inl]
    cases r with
    | nil => rfl
    | cons b r => rfl
  · rw [h1, h2]
    rfl
end Go.Proofs.Ythokgnonmcgkcaa.P
