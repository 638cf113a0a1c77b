/- Numbers of few bits, laid side by side: what the program lays, and what the document does. -/
import Derived.Test.YthokgnonmcgkcaaQe
namespace Go.Proofs.Ythokgnonmcgkcaa.P
open Go Go.RowKit Go.Proofs.Ythokgnonmcgkcaa.E Go.Proofs.Ythokgnonmcgkcaa.M
set_option linter.unusedVariables false

/-! how many bits -/
theorem bl_eq {k m : Nat} (h1 : 2 ^ k ≤ m) (h2 : m < 2 ^ (k + 1)) : bl m = k + 1 := by
  have e : m / 2 ^ k = 1 := by
    rw [Nat.pow_succ] at h2
    have := (Nat.le_div_iff_mul_le (Nat.two_pow_pos k)).2 (show 1 * 2 ^ k ≤ m by omega)
    have := (Nat.div_lt_iff_lt_mul (Nat.two_pow_pos k)).2 (show m < 2 * 2 ^ k by omega)
    omega
  rw [bl_shift k m h1, e, bl_pos (by decide), show 1 / 2 = 0 from rfl, bl_zero]
def steps (m : Nat) : Nat := if m < 1 then 0 else if m < 2 then 1 else if m < 4 then 2 else if m < 8 then 3 else if m < 16 then 4 else if m < 32 then 5 else if m < 64 then 6 else if m < 128 then 7 else 8
theorem bl_steps {m : Nat} (h : m < 256) : bl m = steps m := by
  unfold steps
  repeat' split
  · rw [show m = 0 by omega, bl_zero]
  · exact bl_eq (k := 0) (by omega) (by omega)
  · exact bl_eq (k := 1) (by omega) (by omega)
  · exact bl_eq (k := 2) (by omega) (by omega)
  · exact bl_eq (k := 3) (by omega) (by omega)
  · exact bl_eq (k := 4) (by omega) (by omega)
  · exact bl_eq (k := 5) (by omega) (by omega)
  · exact bl_eq (k := 6) (by omega) (by omega)
  · exact bl_eq (k := 7) (by omega) (by omega)
set_option maxRecDepth 100000 in
theorem j3_eq {m : Nat} (h : m < 256) (a : Int) (ha : 0 ≤ a) (ha' : a ≤ 64) : bits_Len64_j3 (m : Int) a = some (a + (bl m : Int)) := by
  unfold bits_Len64_j3
  rw [lt_, u8w (by omega) (by omega), at_nat]
  have key : ∀ tb : List UInt8, (∀ i : Fin 256, (tb[i.val]?).map (fun b : UInt8 => b.toNat) = some (steps i.val)) → ((tb[m]?).bind fun x133 => (ltt (IntKind.i64.wrap (x133.toNat : Int)) fun x135 => (ltt (IntKind.i64.wrap (a + x135)) fun x137 => (some x137)))) = some (a + (bl m : Int)) := by
    intro tb ht
    have := ht ⟨m, h⟩
    simp only [Option.map_eq_some_iff] at this
    obtain ⟨b, hb, hs⟩ := this
    rw [hb]
    have : steps m ≤ 8 := by unfold steps; (repeat' split) <;> omega
    simp only [Option.bind_some, lt_]
    rw [hs, w64 (n := ((steps m : Nat) : Int)) (by omega) (by omega), w64 (by omega) (by omega), bl_steps h]
  exact key _ (by decide +kernel)
theorem sh {n k : Nat} (hk : k ≤ 64) : ishr .u64 (n : Int) (k : Int) = ((n / 2 ^ k : Nat) : Int) := ishr_nat (k := .u64) n k hk
theorem Len_eq {n : Nat} (h : n < 18446744073709551616) : bits_Len64 (n : Int) = some (bl n : Int) := by
  have j2 : ∀ (m a : Nat), m < 65536 → a ≤ 56 → bits_Len64_j2 (m : Int) (a : Int) = some ((a : Int) + (bl m : Int)) := by
    intro m a hm ha
    unfold bits_Len64_j2
    by_cases hc : 256 ≤ m
    · rw [if_pos (by simp only [decide_eq_true_eq]; omega), lt_, lt_]
      have e := sh (n := m) (k := 8) (by omega)
      rw [show ((8 : Nat) : Int) = 8 from rfl] at e
      rw [e, w64 (by omega) (by omega), j3_eq (by omega) _ (by omega) (by omega), bl_shift 8 m (by omega)]
      congr 1
      omega
    · rw [if_neg (by simp only [decide_eq_true_eq]; omega), j3_eq (by omega) _ (by omega) (by omega)]
  have j1 : ∀ (m a : Nat), m < 4294967296 → a ≤ 32 → bits_Len64_j1 (m : Int) (a : Int) = some ((a : Int) + (bl m : Int)) := by
    intro m a hm ha
    unfold bits_Len64_j1
    by_cases hc : 65536 ≤ m
    · rw [if_pos (by simp only [decide_eq_true_eq]; omega), lt_, lt_]
      have e := sh (n := m) (k := 16) (by omega)
      rw [show ((16 : Nat) : Int) = 16 from rfl] at e
      rw [e, w64 (by omega) (by omega), show (a : Int) + 16 = ((a + 16 : Nat) : Int) by omega, j2 _ _ (by omega) (by omega), bl_shift 16 m (by omega)]
      congr 1
      omega
    · rw [if_neg (by simp only [decide_eq_true_eq]; omega), j2 _ _ (by omega) (by omega)]
  unfold bits_Len64
  by_cases hc : 4294967296 ≤ n
  · rw [if_pos (by simp only [decide_eq_true_eq]; omega), lt_]
    have e := sh (n := n) (k := 32) (by omega)
    rw [show ((32 : Nat) : Int) = 32 from rfl] at e
    rw [e, show (32 : Int) = ((32 : Nat) : Int) from rfl, j1 _ _ (by omega) (by omega), bl_shift 32 n (by omega)]
    congr 1
  · rw [if_neg (by simp only [decide_eq_true_eq]; omega), show (0 : Int) = ((0 : Nat) : Int) from rfl, j1 _ _ (by omega) (by omega)]
    simp
theorem width_eq {n : Nat} (h : n < 18446744073709551616) : r03_width (n : Int) = some (bl n : Int) := by
  unfold r03_width
  have key : ∀ (n w : Nat), n < 18446744073709551616 → w + bl n ≤ 64 → loop (fun s : Int × Int => r03_width_l1 s.1 s.2) ((n : Int), (w : Int)) = some ((w + bl n : Nat) : Int) := by
    intro n
    induction n using Nat.strongRecOn with
    | _ n ih =>
      intro w hn hw
      rcases Nat.eq_zero_or_pos n with rfl | hp
      · rw [loop_end (t := (w : Int)) (by
          show r03_width_l1 ((0 : Nat) : Int) (w : Int) = _
          unfold r03_width_l1
          rw [if_neg (by simp)]), bl_zero]
        rfl
      · rw [bl_pos hp] at hw ⊢
        rw [loop_nxt (s' := (((n / 2 : Nat) : Int), ((w + 1 : Nat) : Int))) (by
          show r03_width_l1 (n : Int) (w : Int) = _
          unfold r03_width_l1
          rw [if_pos (by simp only [decide_eq_true_eq]; omega), lt_, w64 (by omega) (by omega), lt_, show (n : Int).tdiv 2 = ((n / 2 : Nat) : Int) from rfl, u64w (by omega) (by omega)]
          rfl), ih (n / 2) (by omega) (w + 1) (by omega) (by omega)]
        congr 2
        omega
  rw [show (0 : Int) = ((0 : Nat) : Int) from rfl, key n 0 h (by have := bl_le 64 n (by omega); omega)]
  simp only [Option.bind_some]
  unfold r03_width_x1_0 r03_width_b1
  simp

/-! the least -/
theorem mn_snoc : ∀ (l : List Int) (m x : Int), mn m (l ++ [x]) = if x < mn m l then x else mn m l
  | [], m, x => rfl
  | y :: l, m, x => mn_snoc l _ x
theorem mn_le : ∀ (l : List Int) (m : Int), mn m l ≤ m ∧ ∀ x ∈ l, mn m l ≤ x
  | [], m => ⟨Int.le_refl _, fun x h => by cases h⟩
  | y :: l, m => by
    obtain ⟨h1, h2⟩ := mn_le l (if y < m then y else m)
    have h3 : (if y < m then y else m) ≤ m ∧ (if y < m then y else m) ≤ y := by split <;> omega
    refine ⟨Int.le_trans h1 h3.1, fun x hx => ?_⟩
    rcases List.mem_cons.1 hx with rfl | hx
    · exact Int.le_trans h1 h3.2
    · exact h2 x hx
theorem mn_mem : ∀ (l : List Int) (m : Int), mn m l = m ∨ mn m l ∈ l
  | [], m => .inl rfl
  | y :: l, m => by
    rcases mn_mem l (if y < m then y else m) with h | h
    · simp only [mn]
      rw [h]
      split
      · exact .inr List.mem_cons_self
      · exact .inl rfl
    · exact .inr (List.mem_cons_of_mem _ h)
theorem mn_i64 {x : Int} {l : List Int} (h : I64 (x :: l)) : i64 (mn x l) := by
  rcases mn_mem l x with e | e
  · rw [e]; exact h x List.mem_cons_self
  · exact h _ (List.mem_cons_of_mem _ e)

/-! distances -/
theorem d_eq {x lo : Int} (hx : i64 x) (hlo : i64 lo) (h : lo ≤ x) : IntKind.u64.wrap (IntKind.i64.wrap (x - lo)) = (((x - lo).toNat : Nat) : Int) ∧ (x - lo).toNat < 18446744073709551616 := by
  unfold i64 at hx hlo
  refine ⟨?_, by omega⟩
  rw [IntKind.wrap_u64, IntWalk.i64_left]
  unfold wrap64
  omega
theorem wdt_snoc (D : List Nat) (d : Nat) : wdt (D ++ [d]) = if wdt D < bl d then bl d else wdt D := by
  unfold wdt; rw [List.foldl_append]; rfl
theorem wdt_ge : ∀ (k : Nat) (D : List Nat), D.length = k → ∀ d ∈ D, bl d ≤ wdt D
  | 0, D, hk, d, hd => by rw [List.eq_nil_of_length_eq_zero hk] at hd; cases hd
  | k + 1, D, hk, d, hd => by
    obtain ⟨c, x, rfl⟩ : ∃ c x, D = c ++ [x] := ⟨D.dropLast, D.getLast (by intro e; rw [e] at hk; cases hk), (List.dropLast_concat_getLast _).symm⟩
    rw [wdt_snoc]
    rcases List.mem_append.1 hd with h | h
    · have := wdt_ge k c (by simpa using hk) d h
      split <;> omega
    · rw [List.mem_singleton.1 h]
      split <;> omega
theorem wdt_le (b : Nat) : ∀ (k : Nat) (D : List Nat), D.length = k → (∀ d ∈ D, bl d ≤ b) → wdt D ≤ b
  | 0, D, hk, _ => by rw [List.eq_nil_of_length_eq_zero hk]; simp [wdt]
  | k + 1, D, hk, h => by
    obtain ⟨c, x, rfl⟩ : ∃ c x, D = c ++ [x] := ⟨D.dropLast, D.getLast (by intro e; rw [e] at hk; cases hk), (List.dropLast_concat_getLast _).symm⟩
    rw [wdt_snoc]
    have h1 := wdt_le b k c (by simpa using hk) fun d hd => h d (List.mem_append.2 (.inl hd))
    have h2 := h x (List.mem_append.2 (.inr (List.mem_singleton.2 rfl)))
    split <;> omega
theorem Lt_wdt (D : List Nat) : Lt (wdt D) D := fun d hd => Nat.lt_of_lt_of_le (bl_lt d) (Nat.pow_le_pow_right (by decide) (wdt_ge _ D rfl d hd))
theorem ds_take (lo : Int) (l : List Int) (k : Nat) : ds lo (l.take k) = (ds lo l).take k := by simp [ds]
theorem ds_get {lo x : Int} {l : List Int} {i : Nat} (h : l[i]? = some x) : (ds lo l)[i]? = some (x - lo).toNat := by simp [ds, h]
theorem ds_length (lo : Int) (l : List Int) : (ds lo l).length = l.length := by simp [ds]

/-- a byte with one bit more -/
theorem by_step {m v at' : Nat} (h : at' / 8 < m) : (ofN (by_ m (v % 2 ^ at'))).set (at' / 8) ((v % 2 ^ at' / 2 ^ (8 * (at' / 8)) % 256 + bt v at' * 2 ^ (at' % 8) : Nat) : Int) = ofN (by_ m (v % 2 ^ (at' + 1))) := by
  unfold ofN
  rw [← List.map_set]
  congr 1
  refine by_ext (by simp [by_length]) fun j hj => ?_
  rw [List.length_set, by_length] at hj
  rw [by_get hj]
  by_cases e : at' / 8 = j
  · subst e
    have := (part_new v at' 8 (by decide)).1
    rw [Nat.mul_comm (at' / 8) 8, show 2 ^ 8 = 256 from rfl] at this
    rw [List.getElem?_set_self (by rw [by_length]; exact hj), this]
  · have := part_same v at' j 8 (by decide) (Ne.symm e)
    rw [Nat.mul_comm j 8, show 2 ^ 8 = 256 from rfl] at this
    rw [List.getElem?_set_ne e, by_get hj, this]
theorem ofN_get {D : List Nat} {j d : Nat} (h : D[j]? = some d) : (ofN D)[j]? = some (d : Int) := by simp [ofN, h]
theorem ofN_length (D : List Nat) : (ofN D).length = D.length := by simp [ofN]

section
variable {l : List Int} {lo : Int} {w : Nat} (hl : l.length ≤ 4096) (hi : I64 l) (hlo : i64 lo) (hle : ∀ x ∈ l, lo ≤ x) (hw : w ≤ 64) (hL : Lt w (ds lo l))
include hl hi hlo hle hw hL

omit hl in
theorem bit_eq {i : Nat} {x : Int} (hx : l[i]? = some x) {k : Nat} (hk : k < w) :
    ishr .u64 (IntKind.u64.wrap (IntKind.i64.wrap (x - lo))) (k : Int) = (((x - lo).toNat / 2 ^ k : Nat) : Int) ∧ bt (V w (ds lo l)) (i * w + k) = (x - lo).toNat / 2 ^ k % 2 ∧ (x - lo).toNat / 2 ^ k < 18446744073709551616 := by
  obtain ⟨e, e'⟩ := d_eq (hi.get hx) hlo (hle x (List.mem_of_getElem? hx))
  rw [e]
  exact ⟨sh (by omega), bt_V hL (ds_get hx) hk, Nat.lt_of_le_of_lt (Nat.div_le_self _ _) e'⟩

omit hi hlo hle hL in
theorem at_lt {i k : Nat} (hil : i < l.length) (hk : k < w) : i * w + k < l.length * w ∧ l.length * w ≤ 262144 ∧ (i * w + k) / 8 < (l.length * w + 7) / 8 := by
  have h1 : (i + 1) * w ≤ l.length * w := Nat.mul_le_mul_right _ hil
  have h2 : l.length * w ≤ 4096 * 64 := Nat.mul_le_mul hl hw
  rw [Nat.add_mul] at h1
  refine ⟨by omega, by omega, by omega⟩

theorem col_bits {i : Nat} {x : Int} (hx : l[i]? = some x) :
    loop (fun s : Int × List Int × Int => column_pack_l2 lo (w : Int) x s.1 s.2.1 s.2.2) (((i * w : Nat) : Int), ofN (by_ ((l.length * w + 7) / 8) (V w (ds lo l) % 2 ^ (i * w))), 0)
      = some ((((i + 1) * w : Nat) : Int), ofN (by_ ((l.length * w + 7) / 8) (V w (ds lo l) % 2 ^ ((i + 1) * w)))) := by
  have hil := (List.getElem?_eq_some_iff.1 hx).1
  have := loop_to (b := fun s : Int × List Int × Int => column_pack_l2 lo (w : Int) x s.1 s.2.1 s.2.2) (fun k => (((i * w + k : Nat) : Int), ofN (by_ ((l.length * w + 7) / 8) (V w (ds lo l) % 2 ^ (i * w + k))), (k : Int))) (t := ((((i + 1) * w : Nat) : Int), ofN (by_ ((l.length * w + 7) / 8) (V w (ds lo l) % 2 ^ ((i + 1) * w))))) w (fun k hk => by
    obtain ⟨h1, h2, h3⟩ := at_lt hl hw hil hk
    obtain ⟨e1, e2, e3⟩ := bit_eq hi hlo hle hw hL hx hk
    show column_pack_l2 lo (w : Int) x ((i * w + k : Nat) : Int) (ofN (by_ ((l.length * w + 7) / 8) (V w (ds lo l) % 2 ^ (i * w + k)))) (k : Int) = _
    have hstep := by_step (v := V w (ds lo l)) h3
    have hcur : V w (ds lo l) % 2 ^ (i * w + k) / 2 ^ (8 * ((i * w + k) / 8)) % 256 < 2 ^ ((i * w + k) % 8) := by
      have := (part_new (V w (ds lo l)) (i * w + k) 8 (by decide)).2
      rwa [Nat.mul_comm ((i * w + k) / 8) 8] at this
    rw [show i * w + (k + 1) = i * w + k + 1 by omega]
    generalize i * w + k = a at h1 h3 e2 hstep hcur ⊢
    have hget := ofN_get (by_get (v := V w (ds lo l) % 2 ^ a) h3)
    unfold column_pack_l2
    rw [if_pos (by simp only [decide_eq_true_eq]; omega), lt_, show ((a : Nat) : Int).tdiv 8 = ((a / 8 : Nat) : Int) from rfl, w64 (n := ((a / 8 : Nat) : Int)) (by omega) (by omega), at_int rfl hget]
    simp only [Option.bind_some, lt_]
    rw [chk_pos (by omega), e1, show ((a : Nat) : Int).tmod 8 = ((a % 8 : Nat) : Int) from rfl, chk_pos (by omega)]
    have hand : iand .u64 (((x - lo).toNat / 2 ^ k : Nat) : Int) 1 = ((bt (V w (ds lo l)) a : Nat) : Int) := by
      have := iand_u64 (a := (x - lo).toNat / 2 ^ k) (b := 1) e3 (by omega)
      rw [show ((1 : Nat) : Int) = 1 from rfl] at this
      rw [this, and_1, e2]
    have hb := bt_lt (V w (ds lo l)) a
    have hp8 : 2 ^ (a % 8) ≤ 2 ^ 7 := Nat.pow_le_pow_right (by decide) (by omega)
    have hbp : bt (V w (ds lo l)) a * 2 ^ (a % 8) ≤ 1 * 2 ^ (a % 8) := Nat.mul_le_mul_right _ (by omega)
    have hm : bt (V w (ds lo l)) a * 2 ^ (a % 8) % 256 = bt (V w (ds lo l)) a * 2 ^ (a % 8) := Nat.mod_eq_of_lt (by omega)
    rw [hand, u8w (by omega) (by omega), ishl_u8 _ _ (by omega), hm, ior_u8 (by omega) (by omega), or_top hcur, w64 (by omega) (by omega), w64 (by omega) (by omega), Int.toNat_natCast, hstep]
    rfl) (by
    show column_pack_l2 lo (w : Int) x ((i * w + w : Nat) : Int) (ofN (by_ ((l.length * w + 7) / 8) (V w (ds lo l) % 2 ^ (i * w + w)))) (w : Int) = _
    unfold column_pack_l2
    rw [if_neg (by simp), show i * w + w = (i + 1) * w by rw [Nat.add_mul, Nat.one_mul]])
  simpa using this

theorem col_all : loop (fun s : Int × List Int × Int => column_pack_l1 l lo (w : Int) s.1 s.2.1 s.2.2) (0, List.replicate ((l.length * w + 7) / 8) 0, 0) = some (ofN (by_ ((l.length * w + 7) / 8) (V w (ds lo l)))) := by
  have := loop_to (b := fun s : Int × List Int × Int => column_pack_l1 l lo (w : Int) s.1 s.2.1 s.2.2) (fun i => (((i * w : Nat) : Int), ofN (by_ ((l.length * w + 7) / 8) (V w (ds lo l) % 2 ^ (i * w))), (i : Int))) (t := ofN (by_ ((l.length * w + 7) / 8) (V w (ds lo l)))) l.length (fun i hil => by
    have hx := List.getElem?_eq_getElem hil
    show column_pack_l1 l lo (w : Int) ((i * w : Nat) : Int) (ofN (by_ ((l.length * w + 7) / 8) (V w (ds lo l) % 2 ^ (i * w)))) (i : Int) = _
    unfold column_pack_l1
    rw [if_pos (by simp only [decide_eq_true_eq]; omega), at_int rfl hx]
    simp only [Option.bind_some]
    rw [col_bits hl hi hlo hle hw hL hx]
    simp only [Option.bind_some]
    unfold column_pack_x2_4 column_pack_b3
    rw [lt_, w64 (by omega) (by omega)]
    rfl) (by
    show column_pack_l1 l lo (w : Int) ((l.length * w : Nat) : Int) (ofN (by_ ((l.length * w + 7) / 8) (V w (ds lo l) % 2 ^ (l.length * w)))) (l.length : Int) = _
    unfold column_pack_l1
    have hv := V_lt hL
    rw [ds_length] at hv
    rw [if_neg (by simp), Nat.mod_eq_of_lt hv])
  have e0 : ofN (by_ ((l.length * w + 7) / 8) (V w (ds lo l) % 2 ^ (0 * w))) = List.replicate ((l.length * w + 7) / 8) 0 := by
    rw [Nat.zero_mul, Nat.pow_zero, Nat.mod_one]
    unfold ofN by_
    rw [List.map_map, List.eq_replicate_iff]
    refine ⟨by simp, fun b hb => ?_⟩
    obtain ⟨j, _, rfl⟩ := List.mem_map.1 hb
    simp
  rw [e0] at this
  simpa using this
end
end Go.Proofs.Ythokgnonmcgkcaa.P
