/- Texts of the claim, joined: what it uses of Ss, St. -/
import Derived.Test.YteodeedejjcmgaaDoorZi
namespace Go.Proofs.YteodeedejjcmgaaDoor.P
open Go Go.RowKit Go.Proofs.YteodeedejjcmgaaDoor.E Go.Proofs.YteodeedejjcmgaaDoor.M
set_option linter.unusedVariables false
set_option linter.unusedSectionVars false
def sI : Nat → Nat → Nat
 | 0, c => c
 | m + 1, c => sI m (s1 c)
theorem sI_xor : ∀ (m a b : Nat), sI m (a ^^^ b) = sI m a ^^^ sI m b
 | 0, _, _ => rfl
 | m + 1, a, b => by show sI m (s1 (a ^^^ b)) = _; rw [s1_xor, sI_xor m]; rfl
theorem sI_top : ∀ (m b z : Nat), sI m (2 ^ m * b ^^^ z) = b ^^^ sI m z
 | 0, b, z => by simp [sI]
 | m + 1, b, z => by
  show sI m (s1 (2 ^ (m + 1) * b ^^^ z)) = _
  rw [show 2 ^ (m + 1) * b = 2 * (2 ^ m * b) by rw [Nat.pow_succ, Nat.mul_comm (2 ^ m) 2, Nat.mul_assoc], s1_2, sI_top m]
  rfl
theorem sI_add : ∀ (m n c : Nat), sI (m + n) c = sI n (sI m c)
 | 0, n, c => by rw [Nat.zero_add]; rfl
 | m + 1, n, c => by rw [Nat.add_right_comm]; exact sI_add m n (s1 c)
theorem sI_zero : ∀ m, sI m 0 = 0
 | 0 => rfl
 | m + 1 => sI_zero m
theorem s1_ne {c : Nat} (h : c < 4294967296) (h0 : c ≠ 0) : s1 c ≠ 0 := by
 unfold s1
 split
 ·intro e
  have e2 : c / 2 = 3988292384 := by
   have h2 := congrArg (· ^^^ 3988292384) e
   simp only [Nat.xor_assoc, Nat.xor_self, Nat.xor_zero, Nat.zero_xor] at h2
   exact h2
  omega
 ·omega
theorem sI_ne : ∀ (m : Nat) {c : Nat}, c < 4294967296 → c ≠ 0 → sI m c ≠ 0
 | 0, _, _, h => h
 | m + 1, c, h, h0 => sI_ne m (s1_lt h) (s1_ne h h0)
theorem split2 (c m : Nat) : c = (2 ^ m * (c / 2 ^ m)) ^^^ (c % 2 ^ m) := by
 apply Nat.eq_of_testBit_eq
 intro i
 rw [Nat.testBit_xor, Nat.testBit_two_pow_mul, Nat.testBit_mod_two_pow, Nat.testBit_div_two_pow]
 by_cases h : i < m
 ·simp [h, Nat.not_le.2 h]
 ·rw [show i - m + m = i by omega]; simp [h, Nat.le_of_not_lt h]
theorem xor_two (a b x y m : Nat) (hx : x < 2 ^ m) (hy : y < 2 ^ m) : (x + 2 ^ m * a) ^^^ (y + 2 ^ m * b) = (x ^^^ y) + 2 ^ m * (a ^^^ b) := by
 have hp : 0 < 2 ^ m := Nat.two_pow_pos m
 have h1 : ((x + 2 ^ m * a) ^^^ (y + 2 ^ m * b)) % 2 ^ m = x ^^^ y := by
  rw [Nat.xor_mod_two_pow, Nat.add_mul_mod_self_left, Nat.add_mul_mod_self_left, Nat.mod_eq_of_lt hx, Nat.mod_eq_of_lt hy]
 have h2 : ((x + 2 ^ m * a) ^^^ (y + 2 ^ m * b)) / 2 ^ m = a ^^^ b := by
  rw [Nat.xor_div_two_pow, Nat.add_mul_div_left _ _ hp, Nat.add_mul_div_left _ _ hp, Nat.div_eq_of_lt hx, Nat.div_eq_of_lt hy, Nat.zero_add, Nat.zero_add]
 rw [← h1, ← h2]
 exact (Nat.mod_add_div _ _).symm
theorem mul_xor (m a b : Nat) : 2 ^ m * (a ^^^ b) = 2 ^ m * a ^^^ 2 ^ m * b := by
 have := xor_two a b 0 0 m (Nat.two_pow_pos m) (Nat.two_pow_pos m)
 simpa using this.symm
theorem st_sI (x c : Nat) : ∀ k, st x k c = sI k (c ^^^ x % 2 ^ k)
 | 0 => by simp [st, sI, Nat.mod_one]
 | k + 1 => by
  show s1 (st x k c ^^^ (x / 2 ^ k % 2)) = _
  rw [st_sI x c k]
  have hx : x % 2 ^ (k + 1) = (2 ^ k * (x / 2 ^ k % 2)) ^^^ (x % 2 ^ k) := by
   have := split2 (x % 2 ^ (k + 1)) k
   rw [this, Nat.mod_mod_of_dvd x (Nat.pow_dvd_pow 2 (Nat.le_succ k)), Nat.pow_succ, Nat.mod_mul_right_div_self]
  rw [sI_add k 1, hx]
  generalize x / 2 ^ k % 2 = b
  generalize x % 2 ^ k = r
  rw [show c ^^^ (2 ^ k * b ^^^ r) = 2 ^ k * b ^^^ (c ^^^ r) by rw [← Nat.xor_assoc, Nat.xor_comm c, Nat.xor_assoc], sI_top]
  show s1 (sI k (c ^^^ r) ^^^ b) = s1 (b ^^^ sI k (c ^^^ r))
  rw [Nat.xor_comm]
def bigN : List Int → Nat
 | [] => 0
 | x :: r => x.toNat + 256 * bigN r
theorem bigN_lt : ∀ {xs : List Int}, Bs xs → bigN xs < 2 ^ (8 * xs.length)
 | [], _ => by simp [bigN]
 | x :: r, h => by
  obtain ⟨h1, h2⟩ := h.cons
  have ih := bigN_lt h2
  rw [List.length_cons, show 8 * (r.length + 1) = 8 + 8 * r.length by omega, Nat.pow_add, show (2 : Nat) ^ 8 = 256 from rfl]
  show x.toNat + 256 * bigN r < _
  omega
theorem bigN_app : ∀ (a b : List Int), bigN (a ++ b) = bigN a + 2 ^ (8 * a.length) * bigN b
 | [], b => by simp [bigN]
 | x :: a, b => by
  show x.toNat + 256 * bigN (a ++ b) = x.toNat + 256 * bigN a + _
  rw [bigN_app a b, List.length_cons, show 8 * (a.length + 1) = 8 + 8 * a.length by omega, Nat.pow_add, show (2 : Nat) ^ 8 = 256 from rfl, Nat.mul_add, Nat.mul_assoc, Nat.add_assoc]
theorem bigN_inj : ∀ {a b : List Int}, Bs a → Bs b → a.length = b.length → bigN a = bigN b → a = b
 | [], [], _, _, _, _ => rfl
 | [], _ :: _, _, _, hl, _ => by simp at hl
 | _ :: _, [], _, _, hl, _ => by simp at hl
 | x :: a, y :: b, ha, hb, hl, h => by
  obtain ⟨h1, h2⟩ := ha.cons
  obtain ⟨h3, h4⟩ := hb.cons
  have h5 : x.toNat + 256 * bigN a = y.toNat + 256 * bigN b := h
  have e1 : x = y := by omega
  have e2 : bigN a = bigN b := by omega
  rw [e1, bigN_inj h2 h4 (by simpa using hl) e2]
theorem bigN_parts {xs : List Int} (h : Bs xs) {o : Nat} (ho : o ≤ xs.length) : bigN (xs.drop o) = bigN xs / 2 ^ (8 * o) ∧ bigN (xs.take o) = bigN xs % 2 ^ (8 * o) := by
 have e := bigN_app (xs.take o) (xs.drop o)
 have hl : (xs.take o).length = o := by simp; omega
 have hlt := bigN_lt (h.take o)
 rw [List.take_append_drop, hl] at e
 rw [hl] at hlt
 rw [e]
 exact ⟨by rw [Nat.add_mul_div_left _ _ (Nat.two_pow_pos _), Nat.div_eq_of_lt hlt, Nat.zero_add], by rw [Nat.add_mul_mod_self_left, Nat.mod_eq_of_lt hlt]⟩
theorem crcF_big : ∀ (xs : List Int) (c : Nat), Bs xs → crcF c xs = sI (8 * xs.length) (c ^^^ bigN xs)
 | [], c, _ => by simp [crcF, sI, bigN]
 | x :: r, c, h => by
  obtain ⟨h1, h2⟩ := h.cons
  have ih := crcF_big r (st x.toNat 8 c) h2
  show crcF (st x.toNat 8 c) r = _
  rw [ih, st_sI, Nat.mod_eq_of_lt (by show x.toNat < 256; omega), List.length_cons, show 8 * (r.length + 1) = 8 + 8 * r.length by omega, sI_add]
  have e : c ^^^ bigN (x :: r) = 2 ^ 8 * bigN r ^^^ (c ^^^ x.toNat) := by
   have := xor_two (bigN r) 0 0 x.toNat 8 (by decide) (by show x.toNat < 256; omega)
   simp only [Nat.zero_add, Nat.mul_zero, Nat.add_zero, Nat.zero_xor, Nat.xor_zero] at this
   show c ^^^ (x.toNat + 2 ^ 8 * bigN r) = _
   rw [← this, ← Nat.xor_assoc, Nat.xor_comm c, Nat.xor_assoc]
  rw [e, sI_top, Nat.xor_comm]
theorem numN_big {v : List Int} (h : Bs v) (hl : v.length = 4) : numN v = bigN v := by
 obtain ⟨a, b, c, d, r, rfl, _⟩ := four_of h (by omega)
 have : r = [] := List.eq_nil_of_length_eq_zero (by simpa using hl)
 subst this
 rw [numN_mk]
 simp [bigN]
 try omega
def Burst (D : Nat) : Prop := ∃ k w : Nat, D = 2 ^ k * w ∧ w < 4294967296
theorem Burst.div {D : Nat} (h : Burst D) (j : Nat) : Burst (D / 2 ^ j) := by
 obtain ⟨k, w, rfl, hw⟩ := h
 rcases Nat.le_total j k with hj | hj
 ·refine ⟨k - j, w, ?_, hw⟩
  rw [show k = j + (k - j) by omega, Nat.pow_add, Nat.mul_assoc, Nat.mul_div_cancel_left _ (Nat.two_pow_pos j), Nat.add_sub_cancel_left]
 ·refine ⟨0, w / 2 ^ (j - k), ?_, Nat.lt_of_le_of_lt (Nat.div_le_self _ _) hw⟩
  rw [show j = k + (j - k) by omega, Nat.pow_add, Nat.mul_div_mul_left _ _ (Nat.two_pow_pos k), Nat.add_sub_cancel_left, Nat.pow_zero, Nat.one_mul]
theorem Burst.mod {D : Nat} (h : Burst D) (j : Nat) : Burst (D % 2 ^ j) := by
 obtain ⟨k, w, rfl, hw⟩ := h
 rcases Nat.le_total k j with hj | hj
 ·refine ⟨k, w % 2 ^ (j - k), ?_, Nat.lt_of_le_of_lt (Nat.mod_le _ _) hw⟩
  rw [show j = k + (j - k) by omega, Nat.pow_add, Nat.mul_mod_mul_left, Nat.add_sub_cancel_left]
 ·refine ⟨0, 0, ?_, by decide⟩
  rw [show k = j + (k - j) by omega, Nat.pow_add, Nat.mul_assoc, Nat.mul_mod_right]
theorem Burst.ne {D : Nat} (h : Burst D) (h0 : D ≠ 0) (m : Nat) : sI m D ≠ 0 := by
 obtain ⟨k, w, rfl, hw⟩ := h
 have hw0 : w ≠ 0 := fun e => h0 (by rw [e, Nat.mul_zero])
 rcases Nat.le_total k m with hk | hk
 ·have := sI_top k w 0
  rw [Nat.xor_zero, sI_zero, Nat.xor_zero] at this
  rw [show m = k + (m - k) by omega, sI_add, this]
  exact sI_ne _ hw hw0
 ·have := sI_top m (2 ^ (k - m) * w) 0
  rw [Nat.xor_zero, sI_zero, Nat.xor_zero, ← Nat.mul_assoc, ← Nat.pow_add, show m + (k - m) = k by omega] at this
  rw [this]
  have := Nat.two_pow_pos (k - m)
  exact Nat.mul_ne_zero (by omega) hw0
theorem xor_eq0 {a b : Nat} (h : a ^^^ b = 0) : a = b := by
 have h2 := congrArg (· ^^^ b) h
 simp only [Nat.xor_assoc, Nat.xor_self, Nat.xor_zero, Nat.zero_xor] at h2
 exact h2
theorem Burst.part {A B : List Int} (hA : Bs A) (hB : Bs B) (hl : A.length = B.length) (h : Burst (bigN A ^^^ bigN B)) (o n : Nat) (ho : o + n ≤ A.length) : Burst (bigN ((A.drop o).take n) ^^^ bigN ((B.drop o).take n)) := by
 have a1 := (bigN_parts hA (o := o) (by omega)).1
 have b1 := (bigN_parts hB (o := o) (by omega)).1
 have a2 := (bigN_parts (hA.drop o) (o := n) (by simp; omega)).2
 have b2 := (bigN_parts (hB.drop o) (o := n) (by simp; omega)).2
 rw [a2, b2, a1, b1, ← Nat.xor_mod_two_pow, ← Nat.xor_div_two_pow]
 exact (h.div _).mod _
theorem crc_burst {H T H' T' : List Int} (bH : Bs H) (bT : Bs T) (bH' : Bs H') (bT' : Bs T') (hl : H'.length = H.length) (t4 : T.length = 4) (t4' : T'.length = 4) (hok : crc H = numN T)
  (hb : Burst (bigN (H' ++ T') ^^^ bigN (H ++ T))) (hne : bigN (H' ++ T') ^^^ bigN (H ++ T) ≠ 0) : crc H' ≠ numN T' := by
 intro hp
 have key := hb.ne hne (8 * H.length)
 apply key
 have l1 := bigN_lt bH
 have l2 := bigN_lt bH'
 rw [hl] at l2
 have e : bigN (H' ++ T') ^^^ bigN (H ++ T) = 2 ^ (8 * H.length) * (bigN T' ^^^ bigN T) ^^^ (bigN H' ^^^ bigN H) := by
  rw [bigN_app, bigN_app, hl, xor_two _ _ _ _ _ l2 l1]
  have := xor_two (bigN T' ^^^ bigN T) 0 0 (bigN H' ^^^ bigN H) (8 * H.length) (Nat.two_pow_pos _) (Nat.xor_lt_two_pow l2 l1)
  simp only [Nat.zero_add, Nat.mul_zero, Nat.add_zero, Nat.zero_xor, Nat.xor_zero] at this
  exact this.symm
 rw [e, sI_top, sI_xor]
 rw [numN_big bT t4] at hok
 rw [numN_big bT' t4'] at hp
 unfold crc at hok hp
 rw [crcF_big _ _ bH, sI_xor] at hok
 rw [crcF_big _ _ bH', hl, sI_xor] at hp
 rw [← hok, ← hp]
 generalize sI (8 * H.length) 4294967295 = u
 generalize sI (8 * H.length) (bigN H') = v
 generalize sI (8 * H.length) (bigN H) = w
 apply Nat.eq_of_testBit_eq
 intro i
 simp only [Nat.testBit_xor, Nat.zero_testBit]
 cases u.testBit i <;> cases v.testBit i <;> cases w.testBit i <;> cases (4294967295 : Nat).testBit i <;> rfl
theorem pageR_turned {p X q b : List Int} {kind : Int} (hk : 0 ≤ kind ∧ kind < 256) (hb : Bs b) (hbl : b.length ≤ 1048576) (hX : Bs X) (hl : X.length = (pageL kind b).length) (hbu : Burst (bigN X ^^^ bigN (pageL kind b))) (hne : X ≠ pageL kind b) :
  ((pageR (p ++ X ++ q) (p.length : Int)).2.2.2 = 3 ∨ (pageR (p ++ X ++ q) (p.length : Int)).2.2.2 = 4) ∨
  (∃ n : Nat, n ≠ b.length ∧ (pageR (p ++ X ++ q) (p.length : Int)).2.1.length = n ∧ (pageR (p ++ X ++ q) (p.length : Int)).2.2.1 = (p.length : Int) + n + 9 ∧ (pageR (p ++ X ++ q) (p.length : Int)).2.2.2 = 0) := by
 have hpl := pageL_len kind b
 have hB := pageL_bs hk hb
 have hv : (p ++ X ++ q).drop p.length = X ++ q := by rw [List.append_assoc, List.drop_left]
 unfold pageR
 rw [if_neg (by simp only [List.length_append]; omega), Int.toNat_natCast, hv]
 by_cases h9 : (X ++ q).length < 9
 ·rw [if_pos h9]; exact .inl (.inl rfl)
 rw [if_neg h9]
 by_cases hbig : 1048576 < numN (X ++ q) ∨ (X ++ q).length - 9 < numN (X ++ q)
 ·rw [if_pos hbig]; exact .inl (.inl rfl)
 rw [if_neg hbig]
 by_cases hc : crc ((X ++ q).take (5 + numN (X ++ q))) = numN ((X ++ q).drop (5 + numN (X ++ q)))
 ·rw [if_pos hc]
  right
  refine ⟨numN (X ++ q), ?_, ?_, ?_, rfl⟩
  ·intro hn
   -- the length stands: the sum does not
   rw [hn] at hc
   have hlen : X.length = 5 + b.length + 4 := by omega
   have e1 : (X ++ q).take (5 + b.length) = X.take (5 + b.length) := by rw [List.take_append_of_le_length (by omega)]
   have e2 : (X ++ q).drop (5 + b.length) = X.drop (5 + b.length) ++ q := by rw [List.drop_append_of_le_length (by omega)]
   have d4 : (X.drop (5 + b.length)).length = 4 := by simp; omega
   have e3 : numN (X.drop (5 + b.length) ++ q) = numN (X.drop (5 + b.length)) := by
    obtain ⟨a, b', c, d, r, hr, _⟩ := four_of (hX.drop (5 + b.length)) (by omega)
    rw [hr, List.cons_append, List.cons_append, List.cons_append, List.cons_append, numN_mk, numN_mk]
   rw [e1, e2, e3] at hc
   have hhl := headL_len kind b
   have hpage : pageL kind b = headL kind b ++ fourL (crc (headL kind b)) := rfl
   refine crc_burst (H := headL kind b) (T := fourL (crc (headL kind b))) (headL_bs hk hb) (fourL_bs _) (hX.take _) (hX.drop _) (by simp; omega) (fourL_len _) d4 ?_ ?_ ?_ hc
   ·have := numN_four (crc_lt (headL kind b)) []
    rw [List.append_nil] at this
    exact this.symm
   ·rw [List.take_append_drop, ← hpage]; exact hbu
   ·rw [List.take_append_drop, ← hpage]
    intro e
    exact hne (bigN_inj hX hB hl (xor_eq0 e))
  ·simp only [List.length_drop, List.length_take]
   omega
  ·show (p.length : Int) + numN (X ++ q) + 9 = _
   rfl
 ·rw [if_neg hc]; exact .inl (.inr rfl)
theorem ixor_u8 {a b : Nat} (ha : a < 256) (hb : b < 256) : ixor .u8 (a : Int) (b : Int) = ((a ^^^ b : Nat) : Int) := by
 unfold ixor
 rw [ofInt_nat, ofInt_nat, u8_nat]
 have h : a ^^^ b < 2 ^ 8 := Nat.xor_lt_two_pow (show a < 2 ^ 8 by omega) (show b < 2 ^ 8 by omega)
 simp only [BitVec.toNat_xor, BitVec.toNat_ofNat, show IntKind.u8.bits = 8 from rfl]
 rw [Nat.mod_eq_of_lt (show a < 2 ^ 8 by omega), Nat.mod_eq_of_lt (show b < 2 ^ 8 by omega), Nat.mod_eq_of_lt (show a ^^^ b < 256 from h)]
theorem bigN_set {s : Nat} (hs : s < 8) : ∀ {xs : List Int} {j : Nat} {x : Nat}, Bs xs → xs[j]? = some (x : Int) → bigN (xs.set j ((x ^^^ 2 ^ s : Nat) : Int)) = bigN xs ^^^ 2 ^ (8 * j + s) ∧ Bs (xs.set j ((x ^^^ 2 ^ s : Nat) : Int))
 | [], j, x, _, h => by simp at h
 | y :: r, 0, x, hB, h => by
  simp at h
  subst h
  obtain ⟨h1, h2⟩ := hB.cons
  have hp : 2 ^ s < 256 := Nat.pow_lt_pow_right (a := 2) (by decide) (show s < 8 from hs)
  have hx : x < 2 ^ 8 := by show x < 256; omega
  have hxx : x ^^^ 2 ^ s < 256 := Nat.xor_lt_two_pow (n := 8) hx hp
  have := xor_two (bigN r) 0 x (2 ^ s) 8 hx hp
  simp only [Nat.mul_zero, Nat.add_zero, Nat.xor_zero] at this
  refine ⟨?_, Bs.mk (by omega) h2⟩
  show (((x ^^^ 2 ^ s : Nat) : Int)).toNat + 256 * bigN r = ((x : Int).toNat + 256 * bigN r) ^^^ 2 ^ (8 * 0 + s)
  rw [Int.toNat_natCast, Int.toNat_natCast, Nat.mul_zero, Nat.zero_add]
  exact this.symm
 | y :: r, j + 1, x, hB, h => by
  obtain ⟨h1, h2⟩ := hB.cons
  obtain ⟨i1, i2⟩ := bigN_set hs (xs := r) (j := j) h2 (by simpa using h)
  refine ⟨?_, Bs.mk h1 i2⟩
  show y.toNat + 256 * bigN (r.set j _) = (y.toNat + 256 * bigN r) ^^^ _
  rw [i1]
  have := xor_two (bigN r) (2 ^ (8 * j + s)) y.toNat 0 8 (by show y.toNat < 256; omega) (by decide)
  rw [Nat.zero_add, Nat.xor_zero, ← Nat.pow_add, show 8 + (8 * j + s) = 8 * (j + 1) + s by omega] at this
  exact this.symm
section
variable {p : List Int} {k a2 : Nat}
theorem turn_loop (ha : a2 < 4294967296) (hL : p.length < 1000000) (hk : k < 8 * p.length) : ∀ (n i : Nat) (q : List Int), i + n = 32 → Bs q → q.length = p.length → bigN q ^^^ bigN p = 2 ^ k * (a2 % 2 ^ i) →
  ∃ (q' : List Int) (i' : Nat), i' ≤ 32 ∧ loop (fun s : List Int × Bool × Int => law07_SegmentTurned_l1 (a2 : Int) (k : Int) s.1 s.2.1 s.2.2) (q, decide (a2 % 2 ^ i ≠ 0), (i : Int)) = some (q', decide (a2 % 2 ^ i' ≠ 0)) ∧ Bs q' ∧ q'.length = p.length ∧ bigN q' ^^^ bigN p = 2 ^ k * (a2 % 2 ^ i')
 | 0, i, q, hi, hB, hl, hb => by
  refine ⟨q, i, by omega, loop_end ?_, hB, hl, hb⟩
  show law07_SegmentTurned_l1 (a2 : Int) (k : Int) q _ (i : Int) = _
  unfold law07_SegmentTurned_l1 law07_SegmentTurned_j3
  rw [if_neg (by simp only [decide_eq_true_eq]; omega)]
  rfl
 | n + 1, i, q, hi, hB, hl, hb => by
  by_cases hend : k + i < 8 * p.length
  · -- one bit
   obtain ⟨b, hbit⟩ : ∃ b, b = a2 / 2 ^ i % 2 := ⟨_, rfl⟩
   have hb2 : b < 2 := by omega
   have hdiv : a2 / 2 ^ i < 4294967296 := Nat.lt_of_le_of_lt (Nat.div_le_self _ _) ha
   have hnext : a2 % 2 ^ (i + 1) = a2 % 2 ^ i + 2 ^ i * b := by
    have h2 : a2 % 2 ^ (i + 1) % 2 ^ i = a2 % 2 ^ i := Nat.mod_mod_of_dvd a2 (Nat.pow_dvd_pow 2 (Nat.le_succ i))
    have h3 : a2 % 2 ^ (i + 1) / 2 ^ i = b := by rw [hbit, Nat.pow_succ, Nat.mod_mul_right_div_self]
    have := Nat.mod_add_div (a2 % 2 ^ (i + 1)) (2 ^ i)
    rw [h2, h3] at this
    exact this.symm
   have hj3 : ∀ t, law07_SegmentTurned_l1 (a2 : Int) (k : Int) q t (i : Int) = law07_SegmentTurned_j3 (a2 : Int) (k : Int) q t (i : Int) true := by
    intro t
    unfold law07_SegmentTurned_l1
    rw [if_pos (by simp only [decide_eq_true_eq]; omega)]
    simp only [lt_]
    rw [w64 (n := (k : Int) + (i : Int)) (by omega) (by omega), w64 (n := 8 * (q.length : Int)) (by omega) (by omega), show decide ((k : Int) + (i : Int) < 8 * (q.length : Int)) = true by simp only [decide_eq_true_eq]; omega]
   have hand : iand .u32 (ishr .u32 (a2 : Int) (i : Int)) 1 = ((b : Nat) : Int) := by
    have e1 : ishr .u32 (a2 : Int) (i : Int) = ((a2 / 2 ^ i : Nat) : Int) := ishr_nat (k := .u32) a2 i (by show i ≤ 32; omega)
    have e2 := iand_u32 (a := a2 / 2 ^ i) (b := 1) hdiv (by decide)
    rw [e1, show (1 : Int) = ((1 : Nat) : Int) from rfl, e2, Nat.and_one_is_mod, hbit]
   have hcase : b = 0 ∨ b = 1 := by omega
   rcases hcase with h0 | h1
   ·have ih := turn_loop ha hL hk n (i + 1) q (by omega) hB hl (by rw [hnext, h0, Nat.mul_zero, Nat.add_zero]; exact hb)
    obtain ⟨q', i', g1, g2, g3⟩ := ih
    refine ⟨q', i', g1, (loop_nxt ?_).trans g2, g3⟩
    show law07_SegmentTurned_l1 (a2 : Int) (k : Int) q _ (i : Int) = _
    rw [hj3]
    unfold law07_SegmentTurned_j3
    rw [if_pos rfl, chk_pos (by omega)]
    simp only [lt_]
    rw [hand, h0, if_neg (by simp)]
    unfold law07_SegmentTurned_b2
    rw [lt_, w64 (by omega) (by omega), hnext, h0, Nat.mul_zero, Nat.add_zero]
    rfl
   ·obtain ⟨j, hj⟩ : ∃ j, j = (k + i) / 8 := ⟨_, rfl⟩
    obtain ⟨s, hs⟩ : ∃ s, s = (k + i) % 8 := ⟨_, rfl⟩
    have hjl : j < q.length := by omega
    have hx := List.getElem?_eq_getElem (l := q) (i := j) hjl
    obtain ⟨x1, x2⟩ := hB _ (List.getElem_mem hjl)
    obtain ⟨x, hxx⟩ : ∃ x : Nat, q[j] = (x : Int) := ⟨q[j].toNat, by omega⟩
    rw [hxx] at hx x2
    have hp : 2 ^ s < 256 := Nat.pow_lt_pow_right (a := 2) (by decide) (show s < 8 by omega)
    obtain ⟨z1, z2⟩ := bigN_set (s := s) (by omega) hB hx
    have hnb : bigN (q.set j ((x ^^^ 2 ^ s : Nat) : Int)) ^^^ bigN p = 2 ^ k * (a2 % 2 ^ (i + 1)) := by
     rw [z1, Nat.xor_assoc, Nat.xor_comm (2 ^ (8 * j + s)), ← Nat.xor_assoc, hb, show 8 * j + s = k + i by omega, Nat.pow_add, ← mul_xor, hnext, h1, Nat.mul_one]
     have hlt : a2 % 2 ^ i < 2 ^ i := Nat.mod_lt _ (Nat.two_pow_pos i)
     have := xor_two 0 1 (a2 % 2 ^ i) 0 i hlt (Nat.two_pow_pos i)
     simp only [Nat.mul_zero, Nat.add_zero, Nat.zero_add, Nat.xor_zero, Nat.mul_one, Nat.zero_xor] at this
     rw [this]
    have hne : decide (a2 % 2 ^ (i + 1) ≠ 0) = true := by
     rw [hnext, h1]
     have := Nat.two_pow_pos i
     simp only [decide_eq_true_eq]
     omega
    have ih := turn_loop ha hL hk n (i + 1) _ (by omega) z2 (by rw [List.length_set]; exact hl) hnb
    obtain ⟨q', i', g1, g2, g3⟩ := ih
    refine ⟨q', i', g1, (loop_nxt ?_).trans g2, g3⟩
    show law07_SegmentTurned_l1 (a2 : Int) (k : Int) q _ (i : Int) = _
    rw [hj3, hne]
    unfold law07_SegmentTurned_j3
    rw [if_pos rfl, chk_pos (by omega)]
    simp only [lt_]
    rw [hand, h1, if_pos (by rfl), w64 (n := (k : Int) + (i : Int)) (by omega) (by omega), show (k : Int) + (i : Int) = ((k + i : Nat) : Int) from rfl, show ((k + i : Nat) : Int).tdiv 8 = ((j : Nat) : Int) from by rw [hj]; rfl, w64 (n := (j : Int)) (by omega) (by omega), at_int rfl hx]
    simp only [Option.bind_some]
    rw [show ((k + i : Nat) : Int).tmod 8 = ((s : Nat) : Int) from by rw [hs]; rfl, chk_pos (by omega)]
    have e5 := ishl_u8 1 s (by omega)
    rw [Nat.one_mul, Nat.mod_eq_of_lt hp, show ((1 : Nat) : Int) = 1 from rfl] at e5
    rw [e5, ixor_u8 (by omega) hp, Int.toNat_natCast]
    unfold law07_SegmentTurned_b2
    rw [lt_, w64 (by omega) (by omega)]
    rfl
  ·refine ⟨q, i, by omega, loop_end ?_, hB, hl, hb⟩
   show law07_SegmentTurned_l1 (a2 : Int) (k : Int) q _ (i : Int) = _
   unfold law07_SegmentTurned_l1
   rw [if_pos (by simp only [decide_eq_true_eq]; omega)]
   simp only [lt_]
   rw [w64 (n := (k : Int) + (i : Int)) (by omega) (by omega), w64 (n := 8 * (q.length : Int)) (by omega) (by omega), show decide ((k : Int) + (i : Int) < 8 * (q.length : Int)) = false by simp only [decide_eq_false_iff_not]; omega]
   rfl
end
theorem cut3 {α : Type} (xs : List α) {o n : Nat} (h : o + n ≤ xs.length) : xs = xs.take o ++ (xs.drop o).take n ++ xs.drop (o + n) := by
 have h1 := List.take_append_drop o xs
 have h2 := List.take_append_drop n (xs.drop o)
 rw [List.drop_drop] at h2
 rw [List.append_assoc, h2, h1]
section
variable {k : Int} {l : List S44} (h : Seg k l)
include h
theorem Open_turned {B : List Int} (hB : Bs B) (hl : B.length = (segL l k.toNat).length) (hbu : Burst (bigN B ^^^ bigN (segL l k.toNat))) :
  (∃ e : Int, (e = 3 ∨ e = 4) ∧ segment_Open B = some (none, e)) ∨
  (segment_Open B = some (some ⟨B.take (pagesL (pcs 64 l)).length, k, cksL (pcs 64 l) 0⟩, 0) ∧ B.drop (pagesL (pcs 64 l)).length = (segL l k.toNat).drop (pagesL (pcs 64 l)).length) := by
 obtain ⟨c1, c2, c3, c4, c5⟩ := h.cks
 obtain ⟨f1, f2⟩ := h.foot
 obtain ⟨b1, b2⟩ := h.bytes
 have e1 := pageL_len 102 (footL k.toNat (cksL (pcs 64 l) 0))
 have e2 := pageL_len 116 (fourL (pagesL (pcs 64 l)).length)
 rw [fourL_len] at e2
 obtain ⟨S, hS⟩ : ∃ S, S = segL l k.toNat := ⟨_, rfl⟩
 have hSe : S = pagesL (pcs 64 l) ++ pageL 102 (footL k.toNat (cksL (pcs 64 l) 0)) ++ pageL 116 (fourL (pagesL (pcs 64 l)).length) := hS
 have hft := foot_eq h (Pg := B.take (pagesL (pcs 64 l)).length) (by simp; omega)
 rw [← hS] at hl hbu b1 b2 ⊢
 generalize footL k.toNat (cksL (pcs 64 l) 0) = Ft at *
 generalize cksL (pcs 64 l) 0 = cks at *
 generalize pagesL (pcs 64 l) = Pg at *
 have hST : S.drop (Pg.length + (Ft.length + 9)) = pageL 116 (fourL Pg.length) := by
  rw [hSe, List.drop_left' (by rw [List.length_append, e1]; omega)]
 have hSF : (S.drop Pg.length).take (Ft.length + 9) = pageL 102 Ft := by
  rw [hSe, List.append_assoc, List.drop_left, List.take_left' (by omega)]
 have hBT := cut3 B (o := Pg.length + (Ft.length + 9)) (n := 13) (by omega)
 rw [List.drop_of_length_le (show B.length ≤ Pg.length + (Ft.length + 9) + 13 by omega)] at hBT
 have hT13 : (B.drop (Pg.length + (Ft.length + 9))).take 13 = B.drop (Pg.length + (Ft.length + 9)) := List.take_of_length_le (by simp; omega)
 have hBF := cut3 B (o := Pg.length) (n := Ft.length + 9) (by omega)
 have hbT := Burst.part hB b1 hl hbu (Pg.length + (Ft.length + 9)) 13 (by omega)
 have hbF := Burst.part hB b1 hl hbu Pg.length (Ft.length + 9) (by omega)
 rw [hSF] at hbF
 rw [hST, List.take_of_length_le (l := pageL 116 (fourL Pg.length)) (by omega)] at hbT
 have hlo : (B.take (Pg.length + (Ft.length + 9))).length = Pg.length + (Ft.length + 9) := by simp; omega
 have hlP : (B.take Pg.length).length = Pg.length := by simp; omega
 unfold segment_Open
 rw [if_neg (by simp only [decide_eq_true_eq]; omega)]
 simp only [lt_]
 rw [w64 (n := (B.length : Int) - 13) (by omega) (by omega), show (B.length : Int) - 13 = ((Pg.length + (Ft.length + 9) : Nat) : Int) by omega, page_Read_eq hB (by omega)]
 simp only [Option.bind_some]
 by_cases hT : (B.drop (Pg.length + (Ft.length + 9))).take 13 = pageL 116 (fourL Pg.length)
 ·have r1 := pageR_laid (p := B.take (Pg.length + (Ft.length + 9))) (b := fourL Pg.length) (q := []) (kind := 116) (by simp [fourL_len])
  rw [← hT, ← hBT, hlo, hT] at r1
  rw [r1]
  simp only
  rw [if_neg (by simp), if_neg (by simp), if_neg (by rw [fourL_len]; simp)]
  unfold segment_Open_j1
  rw [if_neg (by simp only [bne_iff_ne, ne_eq, Decidable.not_not]; omega)]
  simp only [show at_ (fourL Pg.length) 0 = some ((Pg.length % 256 : Nat) : Int) from rfl, show at_ (fourL Pg.length) 1 = some ((Pg.length / 256 % 256 : Nat) : Int) from rfl, show at_ (fourL Pg.length) 2 = some ((Pg.length / 65536 % 256 : Nat) : Int) from rfl, show at_ (fourL Pg.length) 3 = some ((Pg.length / 16777216 % 256 : Nat) : Int) from rfl, Option.bind_some, lt_]
  rw [w64 (n := ((Pg.length % 256 : Nat) : Int)) (by omega) (by omega), w64 (n := ((Pg.length / 256 % 256 : Nat) : Int)) (by omega) (by omega), w64 (n := ((Pg.length / 65536 % 256 : Nat) : Int)) (by omega) (by omega), w64 (n := ((Pg.length / 16777216 % 256 : Nat) : Int)) (by omega) (by omega), tail_at (by omega)]
  rw [w64 (n := (B.length : Int) - 13) (by omega) (by omega), if_neg (by simp only [decide_eq_true_eq]; omega), page_Read_eq hB (by omega)]
  simp only [Option.bind_some]
  have hcut := cut_nat (xs := B) (l := 0) (u := Pg.length) (by omega) (by omega)
  rw [List.drop_zero, show ((0 : Nat) : Int) = 0 from rfl] at hcut
  have hcl := clone_bytes (l := B.take Pg.length) (by omega)
  by_cases hF : (B.drop Pg.length).take (Ft.length + 9) = pageL 102 Ft
  ·have r2 := pageR_laid (p := B.take Pg.length) (b := Ft) (q := B.drop (Pg.length + (Ft.length + 9))) (kind := 102) (by omega)
   rw [← hF, ← hBF, hlP, hF] at r2
   right
   refine ⟨?_, ?_⟩
   ·rw [r2]
    simp only
    rw [if_neg (by simp), hcut]
    simp only [Option.bind_some]
    rw [hcl]
    simp only [Option.bind_some]
    rw [if_neg (by simp), if_neg (by simp only [bne_iff_ne, ne_eq, Decidable.not_not]; omega)]
    unfold Try_segment_Segment_foot
    rw [hft]
    rfl
   ·have d1 := List.take_append_drop (Ft.length + 9) (B.drop Pg.length)
    have d2 := List.take_append_drop (Ft.length + 9) (S.drop Pg.length)
    rw [List.drop_drop] at d1 d2
    rw [← d1, ← d2, hF, hSF, ← hT13, hT, hST]
  ·left
   have r2 := pageR_turned (p := B.take Pg.length) (X := (B.drop Pg.length).take (Ft.length + 9)) (q := B.drop (Pg.length + (Ft.length + 9))) (b := Ft) (kind := 102) (by decide) f2 (by omega) ((hB.drop _).take _) (by simp; omega) hbF hF
   rw [← hBF, hlP] at r2
   generalize pageR B (Pg.length : Int) = Y at r2
   rcases r2 with r2 | ⟨n, n1, n2, n3, n4⟩
   ·refine ⟨Y.2.2.2, r2, ?_⟩
    rw [if_pos (by rcases r2 with e | e <;> rw [e] <;> rfl)]
   ·refine ⟨3, .inl rfl, ?_⟩
    rw [if_neg (by rw [n4]; simp), hcut]
    simp only [Option.bind_some]
    rw [hcl]
    simp only [Option.bind_some]
    split
    ·rfl
    ·rw [if_pos (by simp only [bne_iff_ne, ne_eq]; omega)]
     rfl
 ·left
  have r1 := pageR_turned (p := B.take (Pg.length + (Ft.length + 9))) (X := (B.drop (Pg.length + (Ft.length + 9))).take 13) (q := []) (b := fourL Pg.length) (kind := 116) (by decide) (fourL_bs _) (by simp [fourL_len]) ((hB.drop _).take _) (by simp; omega) hbT hT
  rw [← hBT, hlo, fourL_len] at r1
  generalize pageR B ((Pg.length + (Ft.length + 9) : Nat) : Int) = Y at r1
  rcases r1 with r1 | ⟨n, n1, n2, n3, n4⟩
  ·refine ⟨Y.2.2.2, r1, ?_⟩
   rw [if_pos (by rcases r1 with e | e <;> rw [e] <;> rfl)]
  ·refine ⟨3, .inl rfl, ?_⟩
   rw [if_neg (by rw [n4]; simp)]
   split
   ·rfl
   ·rw [if_pos (by simp only [bne_iff_ne, ne_eq]; omega)]
    rfl
end
def allF : S33 := ⟨0, 1099511627776, -1099511627776, 1099511627776⟩
theorem all_may {c : S41} (h : CkOk c) : mayB allF c = true := by
 obtain ⟨r0, r1, r2, r4, r6⟩ := h
 unfold mayB allF
 simp only [Bool.and_eq_true, decide_eq_true_eq]
 omega
section
variable {k : Int} {l : List S44} (h : Seg k l)
include h
theorem Scan_turned {B : List Int} (hB : Bs B) (hl : B.length = (pagesL (pcs 64 l)).length) (hbu : Burst (bigN B ^^^ bigN (pagesL (pcs 64 l)))) (hne : B ≠ pagesL (pcs 64 l)) :
  ∃ e : Int, e ≠ 0 ∧ segment_Segment_Scan (some ⟨B, k, cksL (pcs 64 l) 0⟩) allF = some ([], 0, e) := by
 obtain ⟨n1, n2⟩ := h.num
 obtain ⟨c1, c2, c3, c4, c5⟩ := h.cks
 have hk8 := h.k8
 have hle := h.le
 have hat := fun {i x} => h.at_ (i := i) (x := x)
 have hn := cksL_len (pcs 64 l) 0
 obtain ⟨a, ha0, ha1, hr⟩ := h.run
 have hlen : (pcs 64 l).length = (l.length + 64 - 1) / 64 := pcs_len
 have key : ∀ (n i : Nat) (out : List S44) (q : Nat), i + n = (pcs 64 l).length → out.length ≤ i * 64 → q ≤ i → B.take (pagesL ((pcs 64 l).take i)).length = pagesL ((pcs 64 l).take i) →
   ∃ e : Int, e ≠ 0 ∧ loop (fun s : List S44 × Int × Int => segment_Segment_Scan_l1 allF ⟨B, k, cksL (pcs 64 l) 0⟩ s.1 s.2.1 s.2.2) (out, (q : Int), (i : Int)) = some (.inr ([], 0, e)) := by
  intro n
  induction n with
  | zero =>
   intro i out q hi _ _ ht
   exfalso
   rw [List.take_of_length_le (l := pcs 64 l) (by omega), List.take_of_length_le (by omega)] at ht
   exact hne ht
  | succ n ih =>
   intro i out q hi ho hq ht
   have hx := List.getElem?_eq_getElem (l := cksL (pcs 64 l) 0) (i := i) (by omega)
   obtain ⟨a', q0, q1, q2, q3, q4, q5, q6, q7⟩ := hat hx
   have hok := (c1 _ (List.mem_of_getElem? hx)).1
   have haa : a = a' := by
    have w1 := hr.of 0 _ (List.getElem?_eq_getElem (by omega))
    have w2 := q1.of 0 _ (List.getElem?_eq_getElem (by omega))
    omega
   subst haa
   have hpc := pcs_get (q := 64) (by decide) q3
   have hcut := h.cut _ (List.mem_of_getElem? hpc)
   have hrc := (hr.drop (i * 64)).take 64
   have hcl : ((l.drop (i * 64)).take 64).length = min 64 (l.length - i * 64) := by simp
   generalize hcc : (cksL (pcs 64 l) 0)[i]'(by omega) = c at q2 q4 q5 q6 q7 hx hok
   obtain ⟨gL, g1, g2, g3⟩ := hcut.pg hk8
   have hsplit : pagesL (pcs 64 l) = pagesL ((pcs 64 l).take i) ++ pgL ((l.drop (i * 64)).take 64) ++ pagesL ((pcs 64 l).drop (i + 1)) := by
    have := List.take_append_drop i (pcs 64 l)
    rw [List.drop_eq_getElem_cons (by omega)] at this
    rw [List.getElem?_eq_getElem (by omega)] at hpc
    rw [Option.some.inj hpc] at this
    conv => lhs; rw [← this, pagesL_app]
    rw [List.append_assoc]
    rfl
   have hnext : pagesL ((pcs 64 l).take (i + 1)) = pagesL ((pcs 64 l).take i) ++ pgL ((l.drop (i * 64)).take 64) := by
    rw [List.take_add_one, hpc, Option.toList_some, pagesL_app]
    simp [pagesL]
   have hll := congrArg List.length hsplit
   rw [List.length_append, List.length_append] at hll
   have hB3 := cut3 B (o := (pagesL ((pcs 64 l).take i)).length) (n := (pgL ((l.drop (i * 64)).take 64)).length) (by omega)
   have hbp := Burst.part hB c5 hl hbu (pagesL ((pcs 64 l).take i)).length (pgL ((l.drop (i * 64)).take 64)).length (by omega)
   have hPp : ((pagesL (pcs 64 l)).drop (pagesL ((pcs 64 l).take i)).length).take (pgL ((l.drop (i * 64)).take 64)).length = pgL ((l.drop (i * 64)).take 64) := by
    rw [hsplit, List.append_assoc, List.drop_left, List.take_left]
   rw [hPp] at hbp
   have hlo : (B.take (pagesL ((pcs 64 l).take i)).length).length = (pagesL ((pcs 64 l).take i)).length := by simp; omega
   have hstep : ∃ e : Int, e = (((pagesL ((pcs 64 l).take i)).length + (pgL ((l.drop (i * 64)).take 64)).length : Nat) : Int) ∧ segment_Segment_Scan_l1 allF ⟨B, k, cksL (pcs 64 l) 0⟩ out (q : Int) (i : Int) = segment_Segment_Scan_j1 allF ⟨B, k, cksL (pcs 64 l) 0⟩ out (i : Int) c (((q : Nat) : Int) + 1) e := by
    refine ⟨_, rfl, ?_⟩
    unfold segment_Segment_Scan_l1
    simp only
    rw [if_pos (by simp only [decide_eq_true_eq]; omega), at_int rfl hx]
    simp only [Option.bind_some]
    rw [May_is, all_may hok]
    simp only [Option.bind_some]
    rw [if_neg (by simp)]
    simp only [lt_]
    rw [w64 (n := ((q : Nat) : Int) + 1) (by omega) (by omega), w64 (n := (i : Int) + 1) (by omega) (by omega)]
    by_cases hlast : i + 1 < (pcs 64 l).length
    ·have hx2 := List.getElem?_eq_getElem (l := cksL (pcs 64 l) 0) (i := i + 1) (by omega)
     obtain ⟨_, _, _, _, _, p4, _⟩ := hat hx2
     rw [if_pos (by simp only [decide_eq_true_eq]; omega), at_int (n := i + 1) (by omega) hx2]
     simp only [Option.bind_some]
     rw [p4, hnext, List.length_append]
    ·rw [if_neg (by simp only [decide_eq_true_eq]; omega)]
     have : (pagesL ((pcs 64 l).drop (i + 1))).length = 0 := by rw [List.drop_of_length_le (by omega)]; rfl
     rw [show ((B.length : Nat) : Int) = (((pagesL ((pcs 64 l).take i)).length + (pgL ((l.drop (i * 64)).take 64)).length : Nat) : Int) by omega]
   obtain ⟨e, he, hstep⟩ := hstep
   by_cases hX : (B.drop (pagesL ((pcs 64 l).take i)).length).take (pgL ((l.drop (i * 64)).take 64)).length = pgL ((l.drop (i * 64)).take 64)
   · -- this page stands
    have hB3' := hB3
    rw [hX] at hB3'
    have hev := evR_back (l := (l.drop (i * 64)).take 64) (by omega) gL k (B.take (pagesL ((pcs 64 l).take i)).length) (B.drop ((pagesL ((pcs 64 l).take i)).length + (pgL ((l.drop (i * 64)).take 64)).length))
    rw [show pageL 101 (bodyL ((l.drop (i * 64)).take 64)) = pgL ((l.drop (i * 64)).take 64) from rfl, if_pos (List.all_eq_true.2 hrc.fm), ← hB3', hlo] at hev
    have hgo : segment_Segment_Scan_j1 allF ⟨B, k, cksL (pcs 64 l) 0⟩ out (i : Int) c (((q : Nat) : Int) + 1) e = some (.inl (out ++ (((l.drop (i * 64)).take 64).map backE).filter (wantB allF), ((q + 1 : Nat) : Int), ((i + 1 : Nat) : Int))) := by
     unfold segment_Segment_Scan_j1
     simp only
     rw [event_Read_eq hB (by omega), q4, hev]
     simp only [Option.bind_some]
     rw [if_pos (by rfl), if_neg (by simp only [bne_iff_ne, ne_eq, Decidable.not_not]; exact he.symm), if_neg (by simp only [bne_iff_ne, ne_eq, Decidable.not_not, List.length_map]; rw [hcl, q7]), chunk_eq (by rw [List.length_map]; exact hcut.ps) (by rw [List.length_map]; omega), ckL_back, ← q2]
     simp only [Option.bind_some, eqS_self]
     unfold segment_Segment_Scan_j3
     rw [if_neg (by simp)]
     unfold segment_Segment_Scan_j2
     rw [if_neg (by simp), scan_inn h allF (m := (l.drop (i * 64)).take 64) rfl hrc (by omega) (by omega) q5 out (by omega)]
     simp only [Option.bind_some]
     unfold segment_Segment_Scan_x2_2 segment_Segment_Scan_b3 segment_Segment_Scan_b2
     rw [lt_, w64 (by omega) (by omega)]
     rfl
    have hfl := List.length_filter_le (wantB allF) (((l.drop (i * 64)).take 64).map backE)
    rw [List.length_map] at hfl
    obtain ⟨e', h1, h2⟩ := ih (i + 1) (out ++ (((l.drop (i * 64)).take 64).map backE).filter (wantB allF)) (q + 1) (by omega) (by rw [List.length_append]; omega) (by omega) (by
     rw [hnext, List.length_append, List.take_add, ht, hX])
    exact ⟨e', h1, (loop_nxt (hstep.trans hgo)).trans h2⟩
   · -- it doesn't
    have r := pageR_turned (p := B.take (pagesL ((pcs 64 l).take i)).length) (X := (B.drop (pagesL ((pcs 64 l).take i)).length).take (pgL ((l.drop (i * 64)).take 64)).length) (q := B.drop ((pagesL ((pcs 64 l).take i)).length + (pgL ((l.drop (i * 64)).take 64)).length)) (b := bodyL ((l.drop (i * 64)).take 64)) (kind := 101) (by decide) (bodyL_bs (by omega) gL) (by have := bodyL_len (l := (l.drop (i * 64)).take 64) (by omega) gL; omega) ((hB.drop _).take _) (by
     show _ = (pgL ((l.drop (i * 64)).take 64)).length
     simp; omega) hbp hX
    rw [← hB3, hlo] at r
    have hbl : (pgL ((l.drop (i * 64)).take 64)).length = 9 + (bodyL ((l.drop (i * 64)).take 64)).length := pageL_len 101 _
    have hev : (evR B (((pagesL ((pcs 64 l).take i)).length : Nat) : Int) k).2.2 ≠ 0 ∨ (evR B (((pagesL ((pcs 64 l).take i)).length : Nat) : Int) k).2.1 ≠ e := by
     unfold evR
     rcases r with r | ⟨n', m1, m2, m3, m4⟩
     ·rw [if_pos (by rcases r with e | e <;> rw [e] <;> decide)]
      left
      rcases r with e | e <;> (simp only; rw [e]; decide)
     ·rw [if_neg (by rw [m4]; simp)]
      split
      ·left; decide
      ·split
       ·split
        ·right
         simp only
         rw [m3, he]
         omega
        ·left; decide
       ·left; decide
    have hgo : ∃ e' : Int, e' ≠ 0 ∧ segment_Segment_Scan_j1 allF ⟨B, k, cksL (pcs 64 l) 0⟩ out (i : Int) c (((q : Nat) : Int) + 1) e = some (.inr (.inr ([], 0, e'))) := by
     unfold segment_Segment_Scan_j1
     simp only
     rw [event_Read_eq hB (by omega), q4]
     simp only [Option.bind_some]
     generalize evR B (((pagesL ((pcs 64 l).take i)).length : Nat) : Int) k = Y at hev
     have h3 : segment_Segment_Scan_j3 allF out (i : Int) c (((q : Nat) : Int) + 1) Y true = some (.inr (.inr ([], 0, 3))) := by
      unfold segment_Segment_Scan_j3 segment_Segment_Scan_j2
      rw [if_pos rfl, if_pos (by rfl)]
     by_cases hz : Y.2.2 = 0
     ·refine ⟨3, by decide, ?_⟩
      rw [if_pos (by simpa using hz), if_pos (by simp only [bne_iff_ne, ne_eq]; exact hev.resolve_left (fun h => h hz)), h3]
     ·refine ⟨Y.2.2, hz, ?_⟩
      rw [if_neg (by simpa using hz)]
      unfold segment_Segment_Scan_j3 segment_Segment_Scan_j2
      rw [if_neg (by simp), if_pos (by simpa using hz)]
    obtain ⟨e', h1, h2⟩ := hgo
    exact ⟨e', h1, loop_end (hstep.trans h2)⟩
 obtain ⟨e, h1, h2⟩ := key (pcs 64 l).length 0 [] 0 (by omega) (by simp) (by omega) (by simp [pagesL])
 refine ⟨e, h1, ?_⟩
 unfold segment_Segment_Scan
 simp only
 rw [show (([] : List S44), (0 : Int), (0 : Int)) = ([], ((0 : Nat) : Int), ((0 : Nat) : Int)) from rfl, h2]
 rfl
end
theorem SegmentTurned (a0 : List S44) (a1 a2 : Int) (h0 : gL 48 g44 a0) (h1 : gI .u32 a1) (h2 : gI .u32 a2) : law07_SegmentTurned a0 a1 a2 = some true := by
 obtain ⟨g1, g2⟩ := gI32 h1
 obtain ⟨g3, g4⟩ := gI32 h2
 have hj : law07_SegmentTurned_j1 a0 a1 a2 true = some true := by
  unfold law07_SegmentTurned_j1; rw [if_pos rfl, awake7_eq]; rfl
 unfold law07_SegmentTurned
 rw [awake7_eq]
 simp only [Option.bind_some]
 rw [if_neg (by simp)]
 by_cases hl : 100 < a0.length
 ·rw [show decide (100 < (a0.length : Int)) = true by simp only [decide_eq_true_eq]; omega, hj]
 rw [show decide (100 < (a0.length : Int)) = false by simp only [decide_eq_false_iff_not]; omega]
 unfold law07_SegmentTurned_j1
 rw [if_neg (by simp)]
 obtain ⟨m, q1, q2, q3⟩ := opened h0 (f := 0) (k := 4) (by omega) (by omega)
 rw [q1]
 simp only [Option.bind_some]
 rcases q3 with hz | ⟨hs, hr, hw, ho⟩
 ·rw [if_pos (by simp [hz])]; rfl
 have hps := hs.ps
 rw [if_neg (by simp; intro e; simp [e] at hps)]
 unfold law07_SegmentTurned_j2
 by_cases ha : a2 = 0
 ·rw [if_pos (by simpa using ha)]
 rw [if_neg (by simpa using ha), hw]
 simp only [Option.bind_some, lt_]
 obtain ⟨b1, b2⟩ := hs.bytes
 obtain ⟨c1, c2, c3, c4, c5⟩ := hs.cks
 obtain ⟨f1, f2⟩ := hs.foot
 obtain ⟨n1, rfl⟩ : ∃ n : Nat, a1 = n := ⟨a1.toNat, by omega⟩
 obtain ⟨n2, rfl⟩ : ∃ n : Nat, a2 = n := ⟨a2.toNat, by omega⟩
 have hle8 : 0 < (segL m (4 : Int).toNat).length := by omega
 rw [w64 (n := (n1 : Int)) (by omega) (by omega), w64 (n := 8 * ((segL m (4 : Int).toNat).length : Int)) (by omega) (by omega), chk_pos (by omega)]
 have hkk : (n1 : Int).tmod (8 * ((segL m (4 : Int).toNat).length : Int)) = ((n1 % (8 * (segL m (4 : Int).toNat).length) : Nat) : Int) := rfl
 rw [hkk]
 obtain ⟨K, hK⟩ : ∃ K, K = n1 % (8 * (segL m (4 : Int).toNat).length) := ⟨_, rfl⟩
 have hKl : K < 8 * (segL m (4 : Int).toNat).length := by rw [hK]; exact Nat.mod_lt _ (by omega)
 rw [← hK]
 obtain ⟨q', i', z1, z2, z3, z4, z5⟩ := turn_loop (p := segL m (4 : Int).toNat) (k := K) (a2 := n2) (by omega) (by omega) hKl 32 0 (segL m (4 : Int).toNat) (by omega) b1 rfl (by rw [Nat.xor_self, Nat.pow_zero, Nat.mod_one, Nat.mul_zero])
 rw [show decide (n2 % 2 ^ 0 ≠ 0) = false by rw [Nat.pow_zero, Nat.mod_one]; rfl, show ((0 : Nat) : Int) = 0 from rfl] at z2
 rw [z2]
 simp only [Option.bind_some]
 unfold law07_SegmentTurned_x1_0 law07_SegmentTurned_b1
 by_cases ht : n2 % 2 ^ i' = 0
 · -- nothing was turned
  rw [ht, Nat.mul_zero] at z5
  have : q' = segL m (4 : Int).toNat := bigN_inj z3 b1 z4 (xor_eq0 z5)
  rw [this, ho, show decide (n2 % 2 ^ i' ≠ 0) = false by simpa using ht]
  simp only [Option.bind_some]
  rw [if_neg (by simp), Scan_eq hs, all_want hr (by omega)]
  simp only [Option.bind_some]
  rw [if_pos (by rfl), if_pos (by rfl), SameAll_back m (by omega)]
  rfl
 ·rw [show decide (n2 % 2 ^ i' ≠ 0) = true by simpa using ht]
  have hlt : n2 % 2 ^ i' < 4294967296 := Nat.lt_of_le_of_lt (Nat.mod_le _ _) (by omega)
  have hbu : Burst (bigN q' ^^^ bigN (segL m (4 : Int).toNat)) := ⟨K, n2 % 2 ^ i', z5, hlt⟩
  have hne : q' ≠ segL m (4 : Int).toNat := fun e => by
   rw [e, Nat.xor_self] at z5
   have := Nat.two_pow_pos K
   rcases Nat.mul_eq_zero.1 z5.symm with w | w
   ·omega
   ·exact ht w
  rcases Open_turned hs z3 z4 hbu with ⟨e, he, hop⟩ | ⟨hop, hdr⟩
  ·rw [hop]
   simp only [Option.bind_some]
   rw [if_pos (by rcases he with rfl | rfl <;> rfl), if_pos trivial, if_pos (by rfl)]
   rcases he with rfl | rfl <;> rfl
  ·rw [hop]
   simp only [Option.bind_some]
   have htk : (segL m (4 : Int).toNat).take (pagesL (pcs 64 m)).length = pagesL (pcs 64 m) := by unfold segL; rw [List.append_assoc, List.take_left' rfl]
   have hdb := Burst.part z3 b1 z4 hbu 0 (pagesL (pcs 64 m)).length (by omega)
   rw [List.drop_zero, List.drop_zero, htk] at hdb
   obtain ⟨e, h3, h4⟩ := Scan_turned hs (z3.take (pagesL (pcs 64 m)).length) (by simp; omega) hdb (fun e => hne (by
    have d1 := List.take_append_drop (pagesL (pcs 64 m)).length q'
    have d2 := List.take_append_drop (pagesL (pcs 64 m)).length (segL m (4 : Int).toNat)
    rw [e, hdr] at d1
    rw [htk] at d2
    exact d1.symm.trans d2))
   rw [if_neg (by simp), show (⟨0, 1099511627776, -1099511627776, 1099511627776⟩ : S33) = allF from rfl, h4]
   simp only [Option.bind_some]
   rw [if_neg (by simp), if_pos (by simpa using h3)]
   rfl
end Go.Proofs.YteodeedejjcmgaaDoor.P
