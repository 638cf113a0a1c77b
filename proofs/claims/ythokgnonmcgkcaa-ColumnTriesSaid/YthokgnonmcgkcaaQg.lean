/- As and Ints: the program and the document lay the same. -/
import Derived.Test.YthokgnonmcgkcaaQf
namespace Go.Proofs.Ythokgnonmcgkcaa.P
open Go Go.RowKit Go.Proofs.Ythokgnonmcgkcaa.E Go.Proofs.Ythokgnonmcgkcaa.M
set_option linter.unusedVariables false

theorem mod_by {v q : Nat} : v % 2 ^ (8 * q + 8) / 2 ^ (8 * q) % 256 = v / 2 ^ (8 * q) % 256 := by
  rw [Nat.pow_add, Nat.mod_mul_right_div_self, show 2 ^ 8 = 256 from rfl, Nat.mod_mod]

section
variable {l : List Int} {lo : Int} {w : Nat} (hl : l.length ≤ 4096) (hi : I64 l) (hlo : i64 lo) (hle : ∀ x ∈ l, lo ≤ x) (hw : w ≤ 64) (hL : Lt w (ds lo l)) {pre : List Int} (hp : pre.length ≤ 100)
include hl hi hlo hle hw hL hp

/-- what the document holds while it lays: whole bytes, and one that grows -/
def refS (pre : List Int) (v a : Nat) : List Int × Int × Int := (pre ++ ofN (by_ (a / 8) v), ((v % 2 ^ a / 2 ^ (8 * (a / 8)) % 256 : Nat) : Int), ((a % 8 : Nat) : Int))

theorem ref_bits {i : Nat} {x : Int} (hx : l[i]? = some x) :
    loop (fun s : List Int × Int × Int × Int => r03_As_l5 l lo (w : Int) (i : Int) s.1 s.2.1 s.2.2.1 s.2.2.2) ((refS pre (V w (ds lo l)) (i * w)).1, (refS pre (V w (ds lo l)) (i * w)).2.1, (refS pre (V w (ds lo l)) (i * w)).2.2, 0)
      = some (refS pre (V w (ds lo l)) ((i + 1) * w)) := by
  have hil := (List.getElem?_eq_some_iff.1 hx).1
  have := loop_to (b := fun s : List Int × Int × Int × Int => r03_As_l5 l lo (w : Int) (i : Int) s.1 s.2.1 s.2.2.1 s.2.2.2) (fun k => ((refS pre (V w (ds lo l)) (i * w + k)).1, (refS pre (V w (ds lo l)) (i * w + k)).2.1, (refS pre (V w (ds lo l)) (i * w + k)).2.2, (k : Int))) (t := refS pre (V w (ds lo l)) ((i + 1) * w)) w (fun k hk => by
    obtain ⟨h1, h2, h3⟩ := at_lt hl hw hil hk
    obtain ⟨e1, e2, e3⟩ := bit_eq hi hlo hle hw hL hx hk
    show r03_As_l5 l lo (w : Int) (i : Int) (pre ++ ofN (by_ ((i * w + k) / 8) (V w (ds lo l)))) ((V w (ds lo l) % 2 ^ (i * w + k) / 2 ^ (8 * ((i * w + k) / 8)) % 256 : Nat) : Int) (((i * w + k) % 8 : Nat) : Int) (k : Int) = _
    have hnew := part_new (V w (ds lo l)) (i * w + k) 8 (by decide)
    rw [Nat.mul_comm ((i * w + k) / 8) 8, show 2 ^ 8 = 256 from rfl] at hnew
    rw [show i * w + (k + 1) = i * w + k + 1 by omega]
    generalize i * w + k = a at h1 h3 e2 hnew ⊢
    obtain ⟨v, hv⟩ : ∃ v, v = V w (ds lo l) := ⟨_, rfl⟩
    rw [← hv] at e2 hnew ⊢
    have hb := bt_lt v a
    have hp8 : 2 ^ (a % 8) ≤ 2 ^ 7 := Nat.pow_le_pow_right (by decide) (by omega)
    have hbp : bt v a * 2 ^ (a % 8) ≤ 1 * 2 ^ (a % 8) := Nat.mul_le_mul_right _ (by omega)
    have hm : bt v a * 2 ^ (a % 8) % 256 = bt v a * 2 ^ (a % 8) := Nat.mod_eq_of_lt (by omega)
    unfold r03_As_l5
    rw [if_pos (by simp only [decide_eq_true_eq]; omega), at_int rfl hx]
    simp only [Option.bind_some, lt_]
    have hbit : (((x - lo).toNat / 2 ^ k : Nat) : Int).tmod 2 = ((bt v a : Nat) : Int) := by rw [e2]; rfl
    rw [chk_pos (by omega), e1, hbit, u8w (n := ((bt v a : Nat) : Int)) (by omega) (by omega), chk_pos (by omega), ishl_u8 _ _ (by omega), hm, u8w (by omega) (by omega), w64 (n := ((a % 8 : Nat) : Int) + 1) (by omega) (by omega),
      ← Int.natCast_add, ← hnew.1]
    by_cases h8 : a % 8 = 7
    · rw [if_pos (by rw [h8]; rfl)]
      unfold r03_As_b10
      rw [chk_pos (by simp only [List.length_append, ofN_length, by_length, List.length_singleton]; omega), lt_, w64 (by omega) (by omega)]
      obtain ⟨q, rfl⟩ : ∃ q, a = 8 * q + 7 := ⟨a / 8, by omega⟩
      unfold refS
      rw [show (8 * q + 7) / 8 = q by omega, show (8 * q + 7 + 1) / 8 = q + 1 by omega, show (8 * q + 7 + 1) % 8 = 0 by omega, by_succ, show 8 * q + 7 + 1 = 8 * q + 8 by omega, mod_by,
        show 8 * (q + 1) = 8 * q + 8 by omega, Nat.div_eq_of_lt (Nat.mod_lt _ (Nat.two_pow_pos _))]
      unfold ofN
      simp
    · rw [if_neg (by simp; omega)]
      unfold r03_As_b10
      rw [lt_, w64 (by omega) (by omega)]
      unfold refS
      rw [show (a + 1) / 8 = a / 8 by omega, show (a + 1) % 8 = a % 8 + 1 by omega]
      rfl) (by
    show r03_As_l5 l lo (w : Int) (i : Int) _ _ _ (w : Int) = _
    unfold r03_As_l5
    rw [if_neg (by simp), show i * w + w = (i + 1) * w by rw [Nat.add_mul, Nat.one_mul]])
  simpa using this

theorem ref_all : (loop (fun s : List Int × Int × Int × Int => r03_As_l4 l lo (w : Int) s.1 s.2.1 s.2.2.1 s.2.2.2) (pre, 0, 0, 0)).bind (fun t => r03_As_x4_11 t.1 t.2.1 t.2.2) = some (pre ++ ofN (by_ ((l.length * w + 7) / 8) (V w (ds lo l)))) := by
  have := loop_to (b := fun s : List Int × Int × Int × Int => r03_As_l4 l lo (w : Int) s.1 s.2.1 s.2.2.1 s.2.2.2) (fun i => ((refS pre (V w (ds lo l)) (i * w)).1, (refS pre (V w (ds lo l)) (i * w)).2.1, (refS pre (V w (ds lo l)) (i * w)).2.2, (i : Int))) (t := refS pre (V w (ds lo l)) (l.length * w)) l.length (fun i hil => by
    have hx := List.getElem?_eq_getElem hil
    show r03_As_l4 l lo (w : Int) (refS pre (V w (ds lo l)) (i * w)).1 (refS pre (V w (ds lo l)) (i * w)).2.1 (refS pre (V w (ds lo l)) (i * w)).2.2 (i : Int) = _
    unfold r03_As_l4
    rw [if_pos (by simp only [decide_eq_true_eq]; omega), ref_bits hl hi hlo hle hw hL hp hx]
    simp only [Option.bind_some]
    unfold r03_As_x5_13 r03_As_b9
    rw [lt_, w64 (by omega) (by omega)]
    rfl) (by
    show r03_As_l4 l lo (w : Int) _ _ _ (l.length : Int) = _
    unfold r03_As_l4
    rw [if_neg (by simp)])
  have e0 : refS pre (V w (ds lo l)) (0 * w) = (pre, 0, 0) := by
    unfold refS
    rw [Nat.zero_mul, Nat.pow_zero, Nat.mod_one]
    simp [by_, ofN]
  rw [e0, show ((0 : Nat) : Int) = 0 from rfl] at this
  rw [this]
  simp only [Option.bind_some]
  have h2 : l.length * w ≤ 4096 * 64 := Nat.mul_le_mul hl hw
  have hv := V_lt hL
  rw [ds_length] at hv
  generalize l.length * w = a at h2 hv ⊢
  generalize V w (ds lo l) = v at hv ⊢
  unfold r03_As_x4_11 r03_As_b8 refS
  simp only
  by_cases h0 : a % 8 = 0
  · rw [if_neg (by rw [h0]; simp), show (a + 7) / 8 = a / 8 by omega]
    unfold r03_As_b1
    rfl
  · rw [if_pos (by simp only [decide_eq_true_eq]; omega), chk_pos (by simp only [List.length_append, ofN_length, by_length, List.length_singleton]; omega), show (a + 7) / 8 = a / 8 + 1 by omega, by_succ, Nat.mod_eq_of_lt hv]
    unfold r03_As_b1 ofN
    simp
end

/-! the least, and how many bits -/
theorem col_min {x : Int} {l : List Int} (hl : (x :: l).length ≤ 4096) : slices_Min_int64_int64 (x :: l) = some (mn x l) := by
  simp only [List.length_cons] at hl
  unfold slices_Min_int64_int64
  rw [if_neg (by simp only [decide_eq_true_eq, List.length_cons]; omega), show at_ (x :: l) 0 = some x from rfl]
  simp only [Option.bind_some]
  have := loop_to (b := fun s : Int × Int => slices_Min_int64_int64_l1 (x :: l) s.1 s.2) (fun k => (mn x (l.take k), ((k + 1 : Nat) : Int))) (t := mn x l) l.length (fun k hk => by
    have hx := List.getElem?_eq_getElem hk
    show slices_Min_int64_int64_l1 (x :: l) (mn x (l.take k)) ((k + 1 : Nat) : Int) = _
    unfold slices_Min_int64_int64_l1
    rw [if_pos (by simp only [decide_eq_true_eq, List.length_cons]; omega), at_int rfl (by rw [List.getElem?_cons_succ]; exact hx)]
    simp only [Option.bind_some, lt_]
    rw [w64 (by omega) (by omega), take_snoc hx, mn_snoc]
    rfl) (by
    show slices_Min_int64_int64_l1 (x :: l) (mn x (l.take l.length)) ((l.length + 1 : Nat) : Int) = _
    unfold slices_Min_int64_int64_l1
    rw [if_neg (by simp), List.take_length])
  rw [show ((x, 1) : Int × Int) = (fun k => (mn x (l.take k), ((k + 1 : Nat) : Int))) 0 from rfl, this]
  rfl
theorem mn_cons (x : Int) (l : List Int) : mn x (x :: l) = mn x l := by simp [mn]
theorem ref_min {x : Int} {l : List Int} (hl : (x :: l).length ≤ 4096) : loop (fun s : Int × Int => r03_As_l7 (x :: l) s.1 s.2) (x, 0) = some (mn x l) := by
  have := loop_to (b := fun s : Int × Int => r03_As_l7 (x :: l) s.1 s.2) (fun k => (mn x ((x :: l).take k), (k : Int))) (t := mn x l) (x :: l).length (fun k hk => by
    have hx := List.getElem?_eq_getElem hk
    show r03_As_l7 (x :: l) (mn x ((x :: l).take k)) (k : Int) = _
    unfold r03_As_l7 r03_As_b12
    rw [if_pos (by simp only [decide_eq_true_eq]; omega), at_int rfl hx]
    simp only [Option.bind_some, lt_]
    rw [w64 (by omega) (by omega), take_snoc hx, mn_snoc]
    by_cases h : (x :: l)[k] < mn x ((x :: l).take k)
    · rw [if_pos (by simpa using h), if_pos h]; rfl
    · rw [if_neg (by simpa using h), if_neg h]; rfl) (by
    show r03_As_l7 (x :: l) (mn x ((x :: l).take (x :: l).length)) ((x :: l).length : Int) = _
    unfold r03_As_l7
    rw [if_neg (by simp), List.take_length, mn_cons])
  simpa [mn] using this

section
variable {l : List Int} {lo : Int} (hl : l.length ≤ 4096) (hi : I64 l) (hlo : i64 lo) (hle : ∀ x ∈ l, lo ≤ x)
include hl hi hlo hle
omit hl in
theorem ds_bl : ∀ d ∈ ds lo l, bl d ≤ 64 := by
  intro d hd
  obtain ⟨x, hx, rfl⟩ := List.mem_map.1 hd
  exact bl_le 64 _ (d_eq (hi x hx) hlo (hle x hx)).2
omit hl in
theorem wdt_64 (k : Nat) : wdt ((ds lo l).take k) ≤ 64 := wdt_le 64 _ _ rfl fun d hd => ds_bl hi hlo hle d (List.mem_of_mem_take hd)
theorem col_wdt : loop (fun s : Int × Int => column_pack_l3 l lo s.1 s.2) (0, 0) = some (wdt (ds lo l) : Int) := by
  have := loop_to (b := fun s : Int × Int => column_pack_l3 l lo s.1 s.2) (fun k => ((wdt ((ds lo l).take k) : Int), (k : Int))) (t := (wdt (ds lo l) : Int)) l.length (fun k hk => by
    have hx := List.getElem?_eq_getElem hk
    obtain ⟨e, e'⟩ := d_eq (hi.get hx) hlo (hle _ (List.mem_of_getElem? hx))
    show column_pack_l3 l lo (wdt ((ds lo l).take k) : Int) (k : Int) = _
    unfold column_pack_l3
    rw [if_pos (by simp only [decide_eq_true_eq]; omega), at_int rfl hx]
    simp only [Option.bind_some, lt_]
    rw [e, Len_eq e']
    simp only [Option.bind_some]
    rw [w64 (by omega) (by omega), List.take_add_one (i := k), ds_get hx]
    show some (Sum.inl _) = some (Sum.inl (((wdt ((ds lo l).take k ++ [(l[k] - lo).toNat]) : Nat) : Int), ((k + 1 : Nat) : Int)))
    rw [wdt_snoc]
    congr 3
    split <;> split <;> omega) (by
    show column_pack_l3 l lo (wdt ((ds lo l).take l.length) : Int) (l.length : Int) = _
    unfold column_pack_l3
    rw [if_neg (by simp), List.take_of_length_le (by rw [ds_length]; exact Nat.le_refl _)])
  simpa [wdt] using this
theorem ref_wdt : loop (fun s : Int × Int => r03_As_l6 l lo s.1 s.2) (0, 0) = some (wdt (ds lo l) : Int) := by
  have := loop_to (b := fun s : Int × Int => r03_As_l6 l lo s.1 s.2) (fun k => ((wdt ((ds lo l).take k) : Int), (k : Int))) (t := (wdt (ds lo l) : Int)) l.length (fun k hk => by
    have hx := List.getElem?_eq_getElem hk
    obtain ⟨e, e'⟩ := d_eq (hi.get hx) hlo (hle _ (List.mem_of_getElem? hx))
    show r03_As_l6 l lo (wdt ((ds lo l).take k) : Int) (k : Int) = _
    unfold r03_As_l6 r03_As_b11
    rw [if_pos (by simp only [decide_eq_true_eq]; omega), at_int rfl hx]
    simp only [Option.bind_some, lt_]
    rw [e, width_eq e']
    simp only [Option.bind_some]
    rw [w64 (by omega) (by omega), List.take_add_one (i := k), ds_get hx]
    show _ = some (Sum.inl (((wdt ((ds lo l).take k ++ [(l[k] - lo).toNat]) : Nat) : Int), ((k + 1 : Nat) : Int)))
    rw [wdt_snoc]
    by_cases h : wdt ((ds lo l).take k) < bl (l[k] - lo).toNat
    · rw [if_pos (by simp only [decide_eq_true_eq]; omega), if_pos h]; rfl
    · rw [if_neg (by simp only [decide_eq_true_eq]; omega), if_neg h]; rfl) (by
    show r03_As_l6 l lo (wdt ((ds lo l).take l.length) : Int) (l.length : Int) = _
    unfold r03_As_l6
    rw [if_neg (by simp), List.take_of_length_le (by rw [ds_length]; exact Nat.le_refl _)])
  simpa [wdt] using this
end

theorem mn_all {x : Int} {l : List Int} : ∀ y ∈ x :: l, mn x l ≤ y := fun y hy => by
  rcases List.mem_cons.1 hy with rfl | h
  · exact (mn_le l y).1
  · exact (mn_le l x).2 y h

theorem col3 {l pre : List Int} (hl : l.length ≤ 4096) (hi : I64 l) (hp : pre.length ≤ 20) : column_pack pre l = some (pre ++ pk l) := by
  cases l with
  | nil => simp [column_pack, pk]
  | cons x l =>
    have hlo := mn_i64 hi
    have hle := mn_all (x := x) (l := l)
    unfold column_pack
    rw [if_neg (by simp; omega), col_min hl]
    simp only [Option.bind_some]
    rw [col_wdt hl hi hlo hle]
    simp only [Option.bind_some]
    have hw : wdt (ds (mn x l) (x :: l)) ≤ 64 := by
      have := wdt_64 hi hlo hle (x :: l).length
      rwa [List.take_of_length_le (by rw [ds_length]; exact Nat.le_refl _)] at this
    have hL := Lt_wdt (ds (mn x l) (x :: l))
    have hz := uv_length64 (zz_lt hlo)
    simp only [pk]
    generalize wdt (ds (mn x l) (x :: l)) = w at hw hL ⊢
    have h2 : (x :: l).length * w ≤ 4096 * 64 := Nat.mul_le_mul hl hw
    unfold column_pack_x3_0 column_pack_b1
    rw [Int_app hlo _ (by omega)]
    simp only [Option.bind_some, lt_]
    rw [u8w (n := (w : Int)) (by omega) (by omega), chk_pos (by simp only [List.length_append, List.length_singleton]; omega), ← Int.natCast_mul, w64 (n := (((x :: l).length * w : Nat) : Int)) (by omega) (by omega), w64 (n := (((x :: l).length * w : Nat) : Int) + 7) (by omega) (by omega),
      show ((((x :: l).length * w : Nat) : Int) + 7).tdiv 8 = ((((x :: l).length * w + 7) / 8 : Nat) : Int) from rfl, w64 (by omega) (by omega), chk_pos (by omega), Int.toNat_natCast, col_all hl hi hlo hle hw hL]
    simp only [Option.bind_some]
    unfold column_pack_x1_2 column_pack_b2
    rw [chk_pos (by simp only [List.length_append, List.length_singleton, ofN_length, by_length]; omega)]
    simp

theorem ref3 {l pre : List Int} {a0 : Int} {y : List Int} (hl : l.length ≤ 4096) (hi : I64 l) (hp : pre.length ≤ 20) (hpre : [a0] ++ y = pre) :
    (if ((l.length : Int) == 0) = true then (some ([a0] ++ y)) else ((at_ l 0).bind fun x149245 => ((loop (fun s => r03_As_l7 l s.1 s.2) (x149245, 0)).bind fun t => r03_As_x7_7 a0 l y t))) = some (pre ++ pk l) := by
  cases l with
  | nil => rw [hpre]; simp [pk]
  | cons x l =>
    have hlo := mn_i64 hi
    have hle := mn_all (x := x) (l := l)
    rw [if_neg (by simp; omega), show at_ (x :: l) 0 = some x from rfl]
    simp only [Option.bind_some]
    rw [ref_min hl]
    simp only [Option.bind_some]
    unfold r03_As_x7_7 r03_As_b6
    rw [ref_wdt hl hi hlo hle]
    simp only [Option.bind_some]
    have hw : wdt (ds (mn x l) (x :: l)) ≤ 64 := by
      have := wdt_64 hi hlo hle (x :: l).length
      rwa [List.take_of_length_le (by rw [ds_length]; exact Nat.le_refl _)] at this
    have hL := Lt_wdt (ds (mn x l) (x :: l))
    have hz := uv_length64 (zz_lt hlo)
    simp only [pk]
    generalize wdt (ds (mn x l) (x :: l)) = w at hw hL ⊢
    unfold r03_As_x6_9 r03_As_b7
    rw [rInt_eq hlo, hpre]
    simp only [Option.bind_some, lt_]
    rw [u8w (n := (w : Int)) (by omega) (by omega), chk_pos (by omega), chk_pos (by simp only [List.length_append, List.length_singleton]; omega)]
    have := ref_all (pre := (pre ++ uv (zz (mn x l))) ++ [(w : Int)]) hl hi hlo hle hw hL (by simp only [List.length_append, List.length_singleton]; omega)
    rw [this]
    simp

theorem As_col {w : Nat} {l : List Int} (hw : w < 4) (hl : l.length ≤ 4096) (hi : I64 l) : column_As (w : Int) l = some (asL w l) := by
  have hu := uv_length64 (n := l.length) (by omega)
  unfold column_As
  rw [lt_, u64w (by omega) (by omega), Uint_app _ _ (by omega) (by simp; omega)]
  simp only [Option.bind_some]
  have hp : ([(w : Int)] ++ uv l.length).length ≤ 20 := by simp; omega
  unfold asL
  match w, hw with
  | 0, _ =>
    rw [if_pos (by rfl), col0 hl hi hp]
    simp [column_As_x1_1, column_As_b2, column_As_b1, body]
  | 1, _ =>
    rw [if_neg (by decide), if_pos (by rfl), col1 hl hp]
    simp [column_As_x2_3, column_As_b3, column_As_b1, body]
  | 2, _ =>
    rw [if_neg (by decide), if_neg (by decide), if_pos (by rfl), col2 hl hi hp]
    simp [column_As_x3_5, column_As_b4, column_As_b1, body]
  | 3, _ =>
    rw [if_neg (by decide), if_neg (by decide), if_neg (by decide), if_pos (by rfl), col3 hl hi hp]
    simp [column_As_b1, body]

theorem As_ref {w : Nat} {l : List Int} (hw : w < 4) (hl : l.length ≤ 4096) (hi : I64 l) : r03_As (w : Int) l = some (asL w l) := by
  have hu := uv_length64 (n := l.length) (by omega)
  unfold r03_As
  rw [lt_, u64w (by omega) (by omega), rUint_eq _ (by omega)]
  simp only [Option.bind_some]
  have hp : ([(w : Int)] ++ uv l.length).length ≤ 20 := by simp; omega
  rw [chk_pos (by simp; omega)]
  unfold asL
  match w, hw with
  | 0, _ =>
    rw [if_pos (by rfl), ref0 hl hi hp]
    simp [r03_As_x1_1, r03_As_b2, r03_As_b1, body]
  | 1, _ =>
    rw [if_neg (by decide), if_pos (by rfl), ref1 hl hp]
    simp [r03_As_x2_3, r03_As_b3, r03_As_b1, body]
  | 2, _ =>
    rw [if_neg (by decide), if_neg (by decide), if_pos (by rfl), ref2 hl hi hp]
    simp [r03_As_x3_5, r03_As_b4, r03_As_b1, body]
  | 3, _ =>
    rw [if_neg (by decide), if_neg (by decide), if_neg (by decide), if_pos (by rfl), ref3 hl hi hp rfl]
    simp [body]

/-- the shortest, of several the first -/
def shorter (a b : List Int) : List Int := if b.length < a.length then b else a
def intsL (l : List Int) : List Int := shorter (shorter (shorter (asL 0 l) (asL 1 l)) (asL 2 l)) (asL 3 l)

theorem Ints_col {l : List Int} (hl : l.length ≤ 4096) (hi : I64 l) : column_Ints l = some (intsL l) := by
  have hA : ∀ w : Nat, w < 4 → column_As (w : Int) l = some (asL w l) := fun w hw => As_col hw hl hi
  unfold intsL
  unfold column_Ints
  obtain ⟨p, hp⟩ : ∃ p : Nat → List Int, ∀ w, p w = asL w l := ⟨_, fun _ => rfl⟩
  have step : ∀ (b : List Int) (w : Nat), 1 ≤ w → w < 4 → column_Ints_l1 l b (w : Int) = some (.inl (shorter b (p w), ((w + 1 : Nat) : Int))) := by
    intro b w h1 h4
    unfold column_Ints_l1 column_Ints_b2 shorter
    rw [if_pos (by simp only [decide_eq_true_eq]; omega), hA w h4, hp]
    simp only [Option.bind_some, lt_]
    rw [u8w (by omega) (by omega)]
    by_cases h : (asL w l).length < b.length
    · rw [if_pos (by simp only [decide_eq_true_eq]; omega), if_pos h]; rfl
    · rw [if_neg (by simp only [decide_eq_true_eq]; omega), if_neg h]; rfl
  have h0 := hA 0 (by decide)
  rw [show ((0 : Nat) : Int) = 0 from rfl] at h0
  rw [h0, ← hp 0, ← hp 1, ← hp 2, ← hp 3]
  clear hA h0 hp
  simp only [Option.bind_some]
  have h4 : ∀ b, column_Ints_l1 l b ((4 : Nat) : Int) = some (.inr b) := by
    intro b
    unfold column_Ints_l1
    rw [if_neg (by decide)]
  have := ((loop_nxt (b := fun s : List Int × Int => column_Ints_l1 l s.1 s.2) (s := (p 0, ((1 : Nat) : Int))) (step (p 0) 1 (by decide) (by decide))).trans
    ((loop_nxt (b := fun s : List Int × Int => column_Ints_l1 l s.1 s.2) (s := (shorter (p 0) (p 1), ((2 : Nat) : Int))) (step _ 2 (by decide) (by decide))).trans
    ((loop_nxt (b := fun s : List Int × Int => column_Ints_l1 l s.1 s.2) (s := (shorter (shorter (p 0) (p 1)) (p 2), ((3 : Nat) : Int))) (step _ 3 (by decide) (by decide))).trans (loop_end (b := fun s : List Int × Int => column_Ints_l1 l s.1 s.2) (s := (shorter (shorter (shorter (p 0) (p 1)) (p 2)) (p 3), ((4 : Nat) : Int))) (h4 _)))))
  rw [show (1 : Int) = ((1 : Nat) : Int) from rfl, this]
  rfl
theorem Ints_ref {l : List Int} (hl : l.length ≤ 4096) (hi : I64 l) : r03_Ints l = some (intsL l) := by
  have hA : ∀ w : Nat, w < 4 → r03_As (w : Int) l = some (asL w l) := fun w hw => As_ref hw hl hi
  unfold intsL r03_Ints
  obtain ⟨p, hp⟩ : ∃ p : Nat → List Int, ∀ w, p w = asL w l := ⟨_, fun _ => rfl⟩
  have step : ∀ (b : List Int) (w : Nat), 1 ≤ w → w < 4 → r03_Ints_l1 l b (w : Int) = some (.inl (shorter b (p w), ((w + 1 : Nat) : Int))) := by
    intro b w h1 h4
    unfold r03_Ints_l1 r03_Ints_b2 shorter
    rw [if_pos (by simp only [decide_eq_true_eq]; omega), hA w h4, hp]
    simp only [Option.bind_some, lt_]
    rw [u8w (by omega) (by omega)]
    by_cases h : (asL w l).length < b.length
    · rw [if_pos (by simp only [decide_eq_true_eq]; omega), if_pos h]; rfl
    · rw [if_neg (by simp only [decide_eq_true_eq]; omega), if_neg h]; rfl
  have h0 := hA 0 (by decide)
  rw [show ((0 : Nat) : Int) = 0 from rfl] at h0
  rw [h0, ← hp 0, ← hp 1, ← hp 2, ← hp 3]
  clear hA h0 hp
  simp only [Option.bind_some]
  have h4 : ∀ b, r03_Ints_l1 l b ((4 : Nat) : Int) = some (.inr b) := by
    intro b
    unfold r03_Ints_l1
    rw [if_neg (by decide)]
  have := ((loop_nxt (b := fun s : List Int × Int => r03_Ints_l1 l s.1 s.2) (s := (p 0, ((1 : Nat) : Int))) (step (p 0) 1 (by decide) (by decide))).trans
    ((loop_nxt (b := fun s : List Int × Int => r03_Ints_l1 l s.1 s.2) (s := (shorter (p 0) (p 1), ((2 : Nat) : Int))) (step _ 2 (by decide) (by decide))).trans
    ((loop_nxt (b := fun s : List Int × Int => r03_Ints_l1 l s.1 s.2) (s := (shorter (shorter (p 0) (p 1)) (p 2), ((3 : Nat) : Int))) (step _ 3 (by decide) (by decide))).trans (loop_end (b := fun s : List Int × Int => r03_Ints_l1 l s.1 s.2) (s := (shorter (shorter (shorter (p 0) (p 1)) (p 2)) (p 3), ((4 : Nat) : Int))) (h4 _)))))
  rw [show (1 : Int) = ((1 : Nat) : Int) from rfl, this]
  rfl
end Go.Proofs.Ythokgnonmcgkcaa.P
