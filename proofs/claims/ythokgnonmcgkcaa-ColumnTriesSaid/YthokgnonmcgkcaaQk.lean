/- Numbers by their bits: laid, and read; the law ColumnReals. -/
import Derived.Test.YthokgnonmcgkcaaQj
import Derived.Test.YthokgnonmcgkcaaDf
namespace Go.Proofs.Ythokgnonmcgkcaa.P
open Go Go.RowKit Go.Proofs.Ythokgnonmcgkcaa.E Go.Proofs.Ythokgnonmcgkcaa.M
set_option linter.unusedVariables false

def nanB (a : Nat) : Bool := a / 4503599627370496 % 2048 == 2047 && a % 4503599627370496 != 0

theorem order_self (d : Ieee.Datum) : (d.order d == some .eq) = !d.isNaN := by
  cases d with
  | number s m p => simp [Ieee.Datum.order, Ieee.Datum.isNaN]
  | infinity s => simp [Ieee.Datum.order, Ieee.Datum.isNaN]
  | nan s f => simp [Ieee.Datum.order, Ieee.Datum.isNaN]

theorem feq_self (a : Nat) : feq a a = !nanB a := by
  unfold feq Ieee.Format.order
  rw [order_self]
  congr 1
  unfold Ieee.Format.read nanB
  have e1 : FloatKind.f64.format.signWeight = 9223372036854775808 := by decide
  have e2 : FloatKind.f64.format.binade = 4503599627370496 := by decide
  have e3 : FloatKind.f64.format.infRung = 9218868437227405312 := by decide
  simp only [e1, e2, e3]
  rw [Bool.eq_iff_iff]
  simp only [Bool.and_eq_true, beq_iff_eq, bne_iff_ne, ne_eq]
  split
  · simp [Ieee.Datum.isNaN]; omega
  · split
    · simp [Ieee.Datum.isNaN]; omega
    · split
      · simp [Ieee.Datum.isNaN]; omega
      · simp [Ieee.Datum.isNaN]; omega

/-- of all that are none the one -/
def canon (a : Nat) : Nat := if nanB a then 9221120237041090560 else a
theorem canon_canon (a : Nat) : canon (canon a) = canon a := by
  unfold canon
  cases h : nanB a with
  | true => rw [if_pos rfl, if_pos (by decide)]
  | false => simp [h]
theorem canon_lt {a : Nat} (h : a < 18446744073709551616) : canon a < 18446744073709551616 := by
  unfold canon; split <;> omega

theorem rBits_eq (a : Nat) : r01_Bits a = some (canon a : Int) := by
  unfold r01_Bits r01_Bits_j1 canon nanB
  have e1 : ishr .u64 (a : Int) 52 = ((a / 4503599627370496 : Nat) : Int) := ishr_nat (k := .u64) a 52 (by decide)
  have e2 : (((a / 4503599627370496 : Nat) : Int)).tmod 2048 = ((a / 4503599627370496 % 2048 : Nat) : Int) := rfl
  have e3 : ((a : Int)).tmod 4503599627370496 = ((a % 4503599627370496 : Nat) : Int) := rfl
  simp only [lt_]
  rw [e1, e2, e3]
  by_cases h1 : a / 4503599627370496 % 2048 = 2047
  · by_cases h2 : a % 4503599627370496 = 0
    · simp [h1, h2]
    · simp [h1, h2]; omega
  · have : ((a / 4503599627370496 % 2048 : Nat) : Int) ≠ 2047 := by omega
    simp only [beq_iff_eq, this, if_false]
    simp [h1]
theorem cCanon_eq (a : Nat) : real_Canon a = some (canon a) := by
  unfold real_Canon math_IsNaN canon
  simp only [Option.bind_some, feq_self]
  cases nanB a <;> rfl
theorem cBits_eq (a : Nat) : real_Bits a = some (canon a : Int) := by
  unfold real_Bits
  rw [cCanon_eq]; rfl
theorem cOf_eq (a : Int) : real_Of a = some (canon a.toNat) := by
  unfold real_Of
  rw [cCanon_eq]; rfl
theorem rOf_eq (a : Int) : r01_Of a = some (canon a.toNat) := by
  unfold r01_Of
  rw [rBits_eq]; simp
theorem rSame_eq (a b : Nat) : r01_Same a b = some ((canon a : Int) == (canon b : Int)) := by
  unfold r01_Same
  rw [rBits_eq, rBits_eq]; rfl

/-- the whole numbers that numbers are laid as -/
def rl (l : List Nat) : List Int := l.map fun x => IntKind.i64.wrap (canon x : Int)
theorem rl_i64 (l : List Nat) : I64 (rl l) := fun x hx => by
  obtain ⟨y, _, rfl⟩ := List.mem_map.1 hx
  exact i64_wrap _
theorem rl_length (l : List Nat) : (rl l).length = l.length := by simp [rl]
theorem rl_snoc {l : List Nat} {k x : Nat} (h : l[k]? = some x) : rl (l.take (k + 1)) = rl (l.take k) ++ [IntKind.i64.wrap (canon x : Int)] := by
  unfold rl
  rw [List.take_add_one, h, List.map_append]; rfl

theorem Reals_col {l : List Nat} (h : l.length ≤ 4096) : column_Reals l = some (intsL (rl l)) := by
  unfold column_Reals
  have := loop_to (b := fun s : List Int × Int => column_Reals_l1 l s.1 s.2) (fun k => (rl (l.take k), (k : Int))) (t := rl l) l.length (fun k hk => by
    have hx := List.getElem?_eq_getElem hk
    have hlen : (rl (l.take k)).length = k := by rw [rl_length, List.length_take]; omega
    show column_Reals_l1 l (rl (l.take k)) (k : Int) = _
    unfold column_Reals_l1
    rw [if_pos (by simp only [decide_eq_true_eq]; omega), at_int rfl hx]
    simp only [Option.bind_some]
    rw [cBits_eq]
    simp only [Option.bind_some, lt_]
    rw [chk_pos (by rw [hlen]; simp only [List.length_singleton]; omega), w64 (n := (k : Int) + 1) (by omega) (by omega), ← rl_snoc hx]
    rfl) (by
    show column_Reals_l1 l (rl (l.take l.length)) (l.length : Int) = _
    unfold column_Reals_l1
    rw [if_neg (by simp), List.take_length])
  rw [show (([], 0) : List Int × Int) = (fun k => (rl (l.take k), (k : Int))) 0 by simp [rl], this]
  simp only [Option.bind_some]
  unfold column_Reals_x1_0 column_Reals_b1
  rw [Ints_col (by rw [rl_length]; exact h) (rl_i64 l)]
  rfl
theorem Reals_ref {l : List Nat} (h : l.length ≤ 4096) : r03_Reals l = some (intsL (rl l)) := by
  unfold r03_Reals
  have := loop_to (b := fun s : List Int × Int => r03_Reals_l1 l s.1 s.2) (fun k => (rl (l.take k), (k : Int))) (t := rl l) l.length (fun k hk => by
    have hx := List.getElem?_eq_getElem hk
    have hlen : (rl (l.take k)).length = k := by rw [rl_length, List.length_take]; omega
    show r03_Reals_l1 l (rl (l.take k)) (k : Int) = _
    unfold r03_Reals_l1
    rw [if_pos (by simp only [decide_eq_true_eq]; omega), at_int rfl hx]
    simp only [Option.bind_some]
    rw [rBits_eq]
    simp only [Option.bind_some, lt_]
    rw [chk_pos (by rw [hlen]; simp only [List.length_singleton]; omega), w64 (n := (k : Int) + 1) (by omega) (by omega), ← rl_snoc hx]
    rfl) (by
    show r03_Reals_l1 l (rl (l.take l.length)) (l.length : Int) = _
    unfold r03_Reals_l1
    rw [if_neg (by simp), List.take_length])
  rw [show (([], 0) : List Int × Int) = (fun k => (rl (l.take k), (k : Int))) 0 by simp [rl], this]
  simp only [Option.bind_some]
  unfold r03_Reals_x1_0 r03_Reals_b1
  rw [Ints_ref (by rw [rl_length]; exact h) (rl_i64 l)]
  rfl

/-- a whole number as a number's bits -/
def ub (b : Int) : Nat := (IntKind.u64.wrap b).toNat
theorem ub_eq (b : Int) : IntKind.u64.wrap b = (ub b : Int) := by
  unfold ub
  rw [IntKind.wrap_u64]; omega
def realsL (l : List Int) : Option (List Nat) := if l.all (fun b => canon (ub b) == ub b) = true then some (l.map ub) else none

theorem reals_loop (l : List Int) (f : Int) (h : l.length ≤ 4096) : ∀ (m k : Nat), k + m = l.length → (∀ b ∈ l.take k, canon (ub b) = ub b) →
    loop (fun s : List Nat × Int => column_ReadReals_l1 (l, f) s.1 s.2) ((l.take k).map ub, (k : Int)) = some (if (l.drop k).all (fun b => canon (ub b) == ub b) = true then .inl (l.map ub) else .inr ([], 3))
  | 0, k, hk, ha => by
    rw [loop_end (t := Sum.inl (l.map ub)) (by
      show column_ReadReals_l1 (l, f) ((l.take k).map ub) (k : Int) = _
      unfold column_ReadReals_l1
      rw [if_neg (by simp only [decide_eq_true_eq]; omega), show k = l.length by omega, List.take_length]), show k = l.length by omega, List.drop_length]
    rfl
  | m + 1, k, hk, ha => by
    have hkl : k < l.length := by omega
    have hx := List.getElem?_eq_getElem hkl
    have hd : l.drop k = l[k] :: l.drop (k + 1) := List.drop_eq_getElem_cons hkl
    rw [hd, List.all_cons]
    have hlen : ((l.take k).map ub).length = k := by simp; omega
    by_cases hc : canon (ub l[k]) = ub l[k]
    · rw [show (canon (ub l[k]) == ub l[k]) = true by simpa using hc, Bool.true_and, loop_nxt (s' := ((l.take (k + 1)).map ub, ((k + 1 : Nat) : Int))) (by
        show column_ReadReals_l1 (l, f) ((l.take k).map ub) (k : Int) = _
        unfold column_ReadReals_l1
        rw [if_pos (by simp only [decide_eq_true_eq]; omega), at_int rfl hx]
        simp only [Option.bind_some, lt_]
        rw [ub_eq, cOf_eq]
        simp only [Option.bind_some]
        rw [cBits_eq]
        simp only [Option.bind_some, Int.toNat_natCast]
        rw [canon_canon, hc, if_neg (by simp), chk_pos (by rw [hlen]; simp only [List.length_singleton]; omega), w64 (by omega) (by omega), take_snoc hx, List.map_append]
        rfl)]
      exact reals_loop l f h m (k + 1) (by omega) (fun b hb => by
        rw [take_snoc hx] at hb
        rcases List.mem_append.1 hb with q | q
        · exact ha b q
        · rw [List.mem_singleton.1 q]; exact hc)
    · rw [show (canon (ub l[k]) == ub l[k]) = false by simpa using hc, Bool.false_and, if_neg (by simp)]
      refine loop_end ?_
      show column_ReadReals_l1 (l, f) ((l.take k).map ub) (k : Int) = _
      unfold column_ReadReals_l1
      rw [if_pos (by simp only [decide_eq_true_eq]; omega), at_int rfl hx]
      simp only [Option.bind_some, lt_]
      rw [ub_eq, cOf_eq]
      simp only [Option.bind_some]
      rw [cBits_eq]
      simp only [Option.bind_some, Int.toNat_natCast]
      rw [canon_canon, if_pos (by simp only [bne_iff_ne, ne_eq, Int.natCast_inj]; exact hc)]

theorem pMany_len : ∀ (n : Nat) (xs : List Int) {l r : List Int}, pMany n xs = some (l, r) → l.length = n
  | 0, xs, l, r, h => by cases h; rfl
  | n + 1, xs, l, r, h => by
    unfold pMany at h
    split at h
    · split at h
      · rename_i he
        cases h
        simp [pMany_len n _ he]
      · cases h
    · cases h
theorem pD_len : ∀ (n : Nat) (a : Int) (xs : List Int) {l r : List Int}, pD a n xs = some (l, r) → l.length = n
  | 0, a, xs, l, r, h => by cases h; rfl
  | n + 1, a, xs, l, r, h => by
    unfold pD at h
    split at h
    · split at h
      · rename_i he
        cases h
        simp [pD_len n _ _ he]
      · cases h
    · cases h
theorem pR_len : ∀ (f n : Nat) (xs : List Int) {l r : List Int}, pR f n xs = some (l, r) → l.length ≤ n
  | 0, n, xs, l, r, h => by cases h; simp
  | f + 1, n, xs, l, r, h => by
    unfold pR at h
    split at h
    · cases h; simp
    · split at h
      · split at h
        · rename_i hk
          split at h
          · rename_i he
            cases h
            have := pR_len f _ _ he
            have := (pU_some hk).1
            simp only [List.length_append, List.length_replicate]
            omega
          · cases h
        · cases h
      · cases h
theorem pP_len (n : Nat) (xs : List Int) {l r : List Int} (h : pP n xs = some (l, r)) : l.length = n := by
  unfold pP at h
  split at h
  · split at h
    · split at h
      · cases h
        rw [List.length_map, part_length]
      · cases h
    · cases h
  · cases h
theorem pBody_len (w : Int) (n : Nat) (xs : List Int) {l r : List Int} (h : pBody w n xs = some (l, r)) : l.length ≤ n := by
  unfold pBody at h
  split at h
  · exact Nat.le_of_eq (pMany_len _ _ h)
  · split at h
    · exact Nat.le_of_eq (pD_len _ _ _ h)
    · split at h
      · exact pR_len _ _ _ h
      · split at h
        · exact Nat.le_of_eq (pP_len _ _ h)
        · cases h; simp
theorem pInts_len {xs l r : List Int} (h : pInts xs = some (l, r)) : l.length ≤ 4096 := by
  unfold pInts at h
  split at h
  · split at h
    · split at h
      · rename_i hu
        have := pBody_len _ _ _ h
        have := (pU_some hu).1
        omega
      · cases h
    · cases h
  · cases h
theorem readL_len {xs l : List Int} (h : readL xs = some l) : l.length ≤ 4096 := by
  unfold readL at h
  split at h
  · cases h; exact pInts_len (by assumption)
  · cases h

theorem ReadReals_col {xs : List Int} (hB : Bs xs) (hl : xs.length < 1099511627776) : column_ReadReals xs = some (match (readL xs).bind realsL with | some l => (l, 0) | none => ([], 3)) := by
  unfold column_ReadReals
  rw [ReadInts_col hB hl]
  simp only [Option.bind_some]
  cases h : readL xs with
  | none => rfl
  | some l =>
    simp only [Option.bind_some]
    rw [if_neg (by simp)]
    have := reals_loop l 0 (readL_len h) l.length 0 (by omega) (fun b hb => by simp at hb)
    simp only [List.take_zero, List.map_nil, List.drop_zero] at this
    rw [show ((0 : Nat) : Int) = 0 from rfl] at this
    rw [this]
    unfold realsL
    simp only [Option.bind_some]
    cases (l.all fun b => canon (ub b) == ub b)
    · rfl
    · rfl

theorem gFl {l : List Nat} (h : gL 8 gF l) : ∀ x ∈ l, x < 18446744073709551616 := fun x hx => by
  have := h.2 x hx
  unfold gF Lit.wf at this
  simpa using this

theorem reals_back {l : List Nat} (h : ∀ x ∈ l, x < 18446744073709551616) : realsL (rl l) = some (l.map canon) := by
  have hu : ∀ x ∈ l, ub (IntKind.i64.wrap (canon x : Int)) = canon x := by
    intro x hx
    have := canon_lt (h x hx)
    unfold ub
    rw [IntKind.wrap_u64, IntWalk.i64_left]
    unfold wrap64
    omega
  unfold realsL rl
  rw [if_pos]
  · rw [List.map_map]
    congr 1
    exact List.map_congr_left fun x hx => hu x hx
  · rw [List.all_eq_true]
    intro b hb
    obtain ⟨x, hx, rfl⟩ := List.mem_map.1 hb
    rw [hu x hx, canon_canon]
    simp

theorem ColumnReals (a0 : List Nat) (h : gL 8 gF a0) : law03_ColumnReals a0 = some true := by
  have hf := gFl h
  have hj : law03_ColumnReals_j1 a0 true = some true := by
    unfold law03_ColumnReals_j1; rw [if_pos rfl, awake3_eq]; rfl
  unfold law03_ColumnReals
  rw [awake3_eq]
  simp only [Option.bind_some]
  rw [if_neg (by simp)]
  by_cases hl : 200 < a0.length
  · rw [show decide (200 < (a0.length : Int)) = true by simp; omega, hj]
  rw [show decide (200 < (a0.length : Int)) = false by simp; omega]
  unfold law03_ColumnReals_j1
  rw [if_neg (by simp), Reals_col (by omega)]
  simp only [Option.bind_some]
  have hi := rl_i64 a0
  have hll : (rl a0).length ≤ 4096 := by rw [rl_length]; omega
  have hr := read_ints hll hi
  obtain ⟨w, hw, e⟩ := intsL_as (rl a0)
  rw [ReadReals_col (by rw [e]; exact Bs_as hw hi) (by rw [e]; have := len_as hw hll hi; omega), hr]
  simp only [Option.bind_some]
  rw [reals_back hf, Reals_ref (by omega)]
  simp only [Option.bind_some]
  rw [if_neg (by simp), if_neg (by simp), show (((a0.map canon).length : Int) != (a0.length : Int)) = false by simp]
  unfold law03_ColumnReals_j2
  rw [if_neg (by simp)]
  have := loop_to (b := fun s : Int => law03_ColumnReals_l1 a0 (a0.map canon, 0) s) (fun k => (k : Int)) (t := Sum.inl ()) a0.length (fun k hk => by
    have hx := List.getElem?_eq_getElem hk
    show law03_ColumnReals_l1 a0 (a0.map canon, 0) (k : Int) = _
    unfold law03_ColumnReals_l1
    rw [if_pos (by simp only [decide_eq_true_eq]; omega), at_int rfl hx, at_int (n := k) (x := canon a0[k]) rfl (by rw [List.getElem?_map, hx]; rfl)]
    simp only [Option.bind_some]
    rw [rSame_eq]
    simp only [Option.bind_some]
    rw [canon_canon, if_neg (by simp), lt_, w64 (by omega) (by omega)]
    rfl) (by
    show law03_ColumnReals_l1 a0 (a0.map canon, 0) (a0.length : Int) = _
    unfold law03_ColumnReals_l1
    rw [if_neg (by simp)])
  rw [show (0 : Int) = ((0 : Nat) : Int) from rfl] at this ⊢
  rw [this]
  rfl
end Go.Proofs.Ythokgnonmcgkcaa.P
