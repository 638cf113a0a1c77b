/- How whole numbers are laid, in plain words: what the program lays, and what the document does. -/
import Derived.Test.YthokgnonmcgkcaaQc
import Derived.Test.YthokgnonmcgkcaaQd
namespace Go.Proofs.Ythokgnonmcgkcaa.P
open Go Go.RowKit Go.Proofs.Ythokgnonmcgkcaa.E Go.Proofs.Ythokgnonmcgkcaa.M
set_option linter.unusedVariables false

def b0 (l : List Int) : List Int := (l.map fun x => uv (zz x)).flatten
def lastOf : Int → List Int → Int
  | a, [] => a
  | _, x :: l => lastOf x l
def bD : Int → List Int → List Int
  | _, [] => []
  | a, x :: l => uv (zz (IntKind.i64.wrap (x - a))) ++ bD x l
def bR : Nat → List Int → List Int
  | _, [] => []
  | k, [x] => uv (zz x) ++ uv k
  | k, x :: y :: l => if y = x then bR (k + 1) (y :: l) else uv (zz x) ++ uv k ++ bR 0 (y :: l)
def mn : Int → List Int → Int
  | m, [] => m
  | m, x :: l => mn (if x < m then x else m) l
def ds (lo : Int) (l : List Int) : List Nat := l.map fun x => (x - lo).toNat
def wdt (D : List Nat) : Nat := D.foldl (fun w d => if w < bl d then bl d else w) 0
def ofN (l : List Nat) : List Int := l.map fun (n : Nat) => (n : Int)
def pk : List Int → List Int
  | [] => []
  | x :: l => uv (zz (mn x l)) ++ [(wdt (ds (mn x l) (x :: l)) : Int)] ++ ofN (by_ (((x :: l).length * wdt (ds (mn x l) (x :: l)) + 7) / 8) (V (wdt (ds (mn x l) (x :: l))) (ds (mn x l) (x :: l))))
def body : Nat → List Int → List Int
  | 0, l => b0 l
  | 1, l => bD 0 l
  | 2, l => bR 0 l
  | _, l => pk l
def asL (w : Nat) (l : List Int) : List Int := (w : Int) :: (uv l.length ++ body w l)
def I64 (l : List Int) : Prop := ∀ x ∈ l, i64 x
theorem I64.get {l : List Int} (h : I64 l) {i : Nat} {x : Int} (hx : l[i]? = some x) : i64 x := h x (List.mem_of_getElem? hx)

/-! lengths -/
theorem len_b0 : ∀ {l : List Int}, I64 l → (b0 l).length ≤ 10 * l.length
  | [], _ => by simp [b0]
  | x :: l, h => by
    have h1 := uv_length64 (zz_lt (h x List.mem_cons_self))
    have h2 := len_b0 (l := l) fun y hy => h y (List.mem_cons_of_mem _ hy)
    simp only [b0, List.map_cons, List.flatten_cons, List.length_append, List.length_cons] at h2 ⊢
    omega
theorem len_bD : ∀ (l : List Int) (a : Int), (bD a l).length ≤ 10 * l.length
  | [], _ => by simp [bD]
  | x :: l, a => by
    have h1 := uv_length64 (zz_lt (i64_wrap (x - a)))
    have h2 := len_bD l x
    simp only [bD, List.length_append, List.length_cons]
    omega
theorem len_bR : ∀ (l : List Int) (k : Nat), I64 l → k + l.length < 18446744073709551616 → (bR k l).length ≤ 20 * l.length
  | [], _, _, _ => by simp [bR]
  | [x], k, h, hk => by
    have h1 := uv_length64 (zz_lt (h x List.mem_cons_self))
    have h2 := uv_length64 (n := k) (by simp at hk; omega)
    simp only [bR, List.length_append, List.length_cons, List.length_nil]
    omega
  | x :: y :: l, k, h, hk => by
    have h1 := uv_length64 (zz_lt (h x List.mem_cons_self))
    simp only [List.length_cons] at hk
    have h2 := uv_length64 (n := k) (by omega)
    have h' : I64 (y :: l) := fun z hz => h z (List.mem_cons_of_mem _ hz)
    unfold bR
    split
    · have := len_bR (y :: l) (k + 1) h' (by simp only [List.length_cons]; omega)
      simp only [List.length_cons] at this ⊢
      omega
    · have := len_bR (y :: l) 0 h' (by simp only [List.length_cons]; omega)
      simp only [List.length_append, List.length_cons] at this ⊢
      omega

/-! plain, differences -/
theorem b0_snoc (l : List Int) (x : Int) : b0 (l ++ [x]) = b0 l ++ uv (zz x) := by simp [b0]
theorem bD_snoc : ∀ (l : List Int) (a x : Int), bD a (l ++ [x]) = bD a l ++ uv (zz (IntKind.i64.wrap (x - lastOf a l)))
  | [], a, x => by simp [bD, lastOf]
  | y :: l, a, x => by simp [bD, lastOf, bD_snoc l y x]
theorem lastOf_snoc : ∀ (l : List Int) (a x : Int), lastOf a (l ++ [x]) = x
  | [], a, x => rfl
  | y :: l, a, x => lastOf_snoc l y x
theorem take_snoc {l : List Int} {k : Nat} {x : Int} (h : l[k]? = some x) : l.take (k + 1) = l.take k ++ [x] := by rw [List.take_add_one, h]; rfl
theorem I64.take {l : List Int} (h : I64 l) (k : Nat) : I64 (l.take k) := fun x hx => h x (List.mem_of_mem_take hx)

section
variable {l pre : List Int} (hl : l.length ≤ 4096) (hi : I64 l) (hp : pre.length ≤ 20)
include hl hi hp

theorem col0 : loop (fun s : List Int × Int => column_As_l1 l s.1 s.2) (pre, 0) = some (pre ++ b0 l) := by
  have := loop_to (b := fun s : List Int × Int => column_As_l1 l s.1 s.2) (fun k => (pre ++ b0 (l.take k), (k : Int))) (t := pre ++ b0 l) l.length (fun k hk => by
    have hx := List.getElem?_eq_getElem hk
    have hlen := len_b0 (hi.take k)
    rw [List.length_take] at hlen
    show column_As_l1 l (pre ++ b0 (l.take k)) (k : Int) = _
    unfold column_As_l1
    rw [if_pos (by simp only [decide_eq_true_eq]; omega), at_int rfl hx]
    simp only [Option.bind_some]
    rw [Int_app (hi.get hx) _ (by simp only [List.length_append]; omega)]
    simp only [Option.bind_some, lt_]
    rw [w64 (by omega) (by omega), take_snoc hx, b0_snoc, List.append_assoc]
    rfl) (by
    show column_As_l1 l (pre ++ b0 (l.take l.length)) (l.length : Int) = _
    unfold column_As_l1
    rw [if_neg (by simp), List.take_length])
  simpa [b0] using this

theorem ref0 : loop (fun s : List Int × Int => r03_As_l1 l s.1 s.2) (pre, 0) = some (pre ++ b0 l) := by
  have := loop_to (b := fun s : List Int × Int => r03_As_l1 l s.1 s.2) (fun k => (pre ++ b0 (l.take k), (k : Int))) (t := pre ++ b0 l) l.length (fun k hk => by
    have hx := List.getElem?_eq_getElem hk
    have hlen := len_b0 (hi.take k)
    have hz := uv_length64 (zz_lt (hi.get hx))
    rw [List.length_take] at hlen
    show r03_As_l1 l (pre ++ b0 (l.take k)) (k : Int) = _
    unfold r03_As_l1
    rw [if_pos (by simp only [decide_eq_true_eq]; omega), at_int rfl hx]
    simp only [Option.bind_some]
    rw [rInt_eq (hi.get hx)]
    simp only [Option.bind_some, lt_]
    rw [chk_pos (by simp only [List.length_append]; omega), w64 (by omega) (by omega), take_snoc hx, b0_snoc, List.append_assoc]
    rfl) (by
    show r03_As_l1 l (pre ++ b0 (l.take l.length)) (l.length : Int) = _
    unfold r03_As_l1
    rw [if_neg (by simp), List.take_length])
  simpa [b0] using this

omit hi in
theorem col1 : loop (fun s : List Int × Int × Int => column_As_l2 l s.1 s.2.1 s.2.2) (pre, 0, 0) = some (pre ++ bD 0 l) := by
  have := loop_to (b := fun s : List Int × Int × Int => column_As_l2 l s.1 s.2.1 s.2.2) (fun k => (pre ++ bD 0 (l.take k), lastOf 0 (l.take k), (k : Int))) (t := pre ++ bD 0 l) l.length (fun k hk => by
    have hx := List.getElem?_eq_getElem hk
    have hlen := len_bD (l.take k) 0
    rw [List.length_take] at hlen
    show column_As_l2 l (pre ++ bD 0 (l.take k)) (lastOf 0 (l.take k)) (k : Int) = _
    unfold column_As_l2
    rw [if_pos (by simp only [decide_eq_true_eq]; omega), at_int rfl hx]
    simp only [Option.bind_some, lt_]
    rw [Int_app (i64_wrap _) _ (by simp only [List.length_append]; omega)]
    simp only [Option.bind_some]
    rw [w64 (n := (k : Int) + 1) (by omega) (by omega), take_snoc hx, bD_snoc, lastOf_snoc, List.append_assoc]
    rfl) (by
    show column_As_l2 l (pre ++ bD 0 (l.take l.length)) (lastOf 0 (l.take l.length)) (l.length : Int) = _
    unfold column_As_l2
    rw [if_neg (by simp), List.take_length])
  simpa [bD, lastOf] using this

omit hi in
theorem ref1 : loop (fun s : List Int × Int => r03_As_l2 l s.1 s.2) (pre, 0) = some (pre ++ bD 0 l) := by
  have := loop_to (b := fun s : List Int × Int => r03_As_l2 l s.1 s.2) (fun k => (pre ++ bD 0 (l.take k), (k : Int))) (t := pre ++ bD 0 l) l.length (fun k hk => by
    have hx := List.getElem?_eq_getElem hk
    have hlen := len_bD (l.take k) 0
    rw [List.length_take] at hlen
    show r03_As_l2 l (pre ++ bD 0 (l.take k)) (k : Int) = _
    have hj : r03_As_j1 l (pre ++ bD 0 (l.take k)) (k : Int) (lastOf 0 (l.take k)) = some (.inl (pre ++ bD 0 (l.take (k + 1)), ((k + 1 : Nat) : Int))) := by
      unfold r03_As_j1
      have hz := uv_length64 (zz_lt (i64_wrap (l[k] - lastOf 0 (l.take k))))
      rw [at_int rfl hx]
      simp only [Option.bind_some, lt_]
      rw [rInt_eq (i64_wrap _)]
      simp only [Option.bind_some]
      rw [chk_pos (by simp only [List.length_append]; omega), w64 (n := (k : Int) + 1) (by omega) (by omega), take_snoc hx, bD_snoc, List.append_assoc]
      rfl
    unfold r03_As_l2
    rw [if_pos (by simp only [decide_eq_true_eq]; omega)]
    cases k with
    | zero =>
      rw [if_neg (by simp)]
      exact hj
    | succ k =>
      have hx' := List.getElem?_eq_getElem (show k < l.length by omega)
      rw [if_pos (by simp only [decide_eq_true_eq]; omega), lt_, w64 (by omega) (by omega), at_int (n := k) (by omega) hx']
      simp only [Option.bind_some]
      rw [take_snoc hx', lastOf_snoc] at hj
      rw [take_snoc hx']
      exact hj) (by
    show r03_As_l2 l (pre ++ bD 0 (l.take l.length)) (l.length : Int) = _
    unfold r03_As_l2
    rw [if_neg (by simp), List.take_length])
  simpa [bD] using this
end

/-! runs -/
theorem run_split (x : Int) : ∀ rest : List Int, ∃ (m : Nat) (tl : List Int), rest = List.replicate m x ++ tl ∧ ∀ y, tl[0]? = some y → y ≠ x
  | [] => ⟨0, [], rfl, by simp⟩
  | y :: rest => by
    by_cases h : y = x
    · obtain ⟨m, tl, h1, h2⟩ := run_split x rest
      exact ⟨m + 1, tl, by rw [h, h1]; rfl, h2⟩
    · exact ⟨0, y :: rest, rfl, fun z hz => by cases hz; exact h⟩
theorem bR_run (x : Int) (tl : List Int) (h : ∀ y, tl[0]? = some y → y ≠ x) : ∀ (m k : Nat), bR k (x :: (List.replicate m x ++ tl)) = uv (zz x) ++ uv (k + m) ++ bR 0 tl
  | 0, k => by
    cases tl with
    | nil => simp [bR]
    | cons y tl =>
      have := h y rfl
      simp only [List.replicate_zero, List.nil_append, bR, if_neg this, Nat.add_zero]
  | m + 1, k => by
    rw [List.replicate_succ, List.cons_append, bR, if_pos rfl, bR_run x tl h m (k + 1), show k + 1 + m = k + (m + 1) by omega]

section
variable {l pre : List Int} (hl : l.length ≤ 4096) (hi : I64 l) (hp : pre.length ≤ 20)
include hl hi hp
theorem col2 : loop (fun s : List Int × Int => column_As_l3 l s.1 s.2) (pre, 0) = some (pre ++ bR 0 l) := by
  obtain ⟨t, ht, rfl⟩ := loop_good (b := fun s : List Int × Int => column_As_l3 l s.1 s.2) (s := (pre, 0))
    (fun s => ∃ i : Nat, s.2 = i ∧ i ≤ l.length ∧ s.1.length ≤ 20 + 20 * i ∧ s.1 ++ bR 0 (l.drop i) = pre ++ bR 0 l)
    (fun s => ((l.length : Int) - s.2).toNat) (fun t => t = pre ++ bR 0 l) ⟨0, rfl, by omega, by simpa using hp, by simp⟩ (by
      rintro ⟨acc, q⟩ ⟨i, hq, hil, hacc, hinv⟩
      simp only at hq hacc hinv
      subst hq
      show (∃ s', column_As_l3 l acc (i : Int) = some (.inl s') ∧ _) ∨ ∃ t, column_As_l3 l acc (i : Int) = some (.inr t) ∧ _
      unfold column_As_l3
      by_cases hlt : i < l.length
      · rw [if_pos (by simp only [decide_eq_true_eq]; omega)]
        have hx := List.getElem?_eq_getElem hlt
        obtain ⟨x, hxe⟩ : ∃ x, x = l[i] := ⟨_, rfl⟩
        rw [← hxe] at hx
        have hd : l.drop i = x :: l.drop (i + 1) := by rw [List.drop_eq_getElem_cons hlt, ← hxe]
        obtain ⟨m, tl, hm, htl⟩ := run_split x (l.drop (i + 1))
        have hlen : l.length = i + 1 + m + tl.length := by
          have := congrArg List.length hm
          simp only [List.length_drop, List.length_append, List.length_replicate] at this
          omega
        have hget : ∀ k, k < m → l[i + 1 + k]? = some x := by
          intro k hk
          have : (l.drop (i + 1))[k]? = some x := by rw [hm, List.getElem?_append_left (by simpa using hk)]; simp [hk]
          rwa [List.getElem?_drop] at this
        have hdr : l.drop (i + 1 + m) = tl := by
          rw [← List.drop_drop, hm]
          exact List.drop_left' (by simp)
        -- how many are alike
        have hin := loop_to (b := fun s : Int => column_As_l4 l (i : Int) s) (fun k => ((k + 1 : Nat) : Int)) (t := ((m + 1 : Nat) : Int)) m (fun k hk => by
          show column_As_l4 l (i : Int) ((k + 1 : Nat) : Int) = _
          unfold column_As_l4
          rw [lt_, w64 (by omega) (by omega), if_pos (by simp only [decide_eq_true_eq]; omega), at_int (n := i + 1 + k) (by omega) (hget k hk), at_int rfl hx]
          simp only [Option.bind_some]
          unfold column_As_j1
          rw [if_pos (by simp), lt_, w64 (by omega) (by omega)]
          rfl) (by
          show column_As_l4 l (i : Int) ((m + 1 : Nat) : Int) = _
          unfold column_As_l4
          rw [lt_, w64 (by omega) (by omega)]
          by_cases htz : tl.length = 0
          · rw [if_neg (by simp only [decide_eq_true_eq]; omega)]
            unfold column_As_j1
            rw [if_neg (by simp)]
          · obtain ⟨y, hy⟩ : ∃ y, tl[0]? = some y := ⟨_, List.getElem?_eq_getElem (by omega)⟩
            have hy' : l[i + 1 + m]? = some y := by rw [← hdr, List.getElem?_drop] at hy; exact hy
            rw [if_pos (by simp only [decide_eq_true_eq]; omega), at_int (n := i + 1 + m) (by omega) hy', at_int rfl hx]
            simp only [Option.bind_some]
            unfold column_As_j1
            rw [if_neg (by simpa using htl y hy)])
        rw [show (1 : Int) = ((0 + 1 : Nat) : Int) from rfl, hin]
        simp only [Option.bind_some]
        unfold column_As_x4_7 column_As_b5
        have hz := uv_length64 (zz_lt (hi.get hx))
        have hum := uv_length64 (n := m) (by omega)
        rw [at_int rfl hx]
        simp only [Option.bind_some]
        rw [Int_app (hi.get hx) _ (by omega)]
        simp only [Option.bind_some, lt_]
        rw [w64 (n := ((m + 1 : Nat) : Int) - 1) (by omega) (by omega), show ((m + 1 : Nat) : Int) - 1 = (m : Int) by omega, u64w (by omega) (by omega), Uint_app m _ (by omega) (by simp only [List.length_append]; omega)]
        simp only [Option.bind_some]
        rw [w64 (by omega) (by omega)]
        refine .inl ⟨_, rfl, ⟨i + 1 + m, ?_, by omega, ?_, ?_⟩, ?_⟩
        · simp only; omega
        · simp only [List.length_append]; omega
        · rw [hdr, ← hinv, hd, hm, bR_run x tl htl m 0]
          simp
        · simp only; omega
      · rw [if_neg (by simp only [decide_eq_true_eq]; omega)]
        refine .inr ⟨_, rfl, ?_⟩
        rw [← hinv, show i = l.length by omega, List.drop_length]
        simp [bR])
  exact ht

theorem ref2 : loop (fun s : List Int × Int × Int => r03_As_l3 l s.1 s.2.1 s.2.2) (pre, 0, 0) = some (pre ++ bR 0 l) := by
  obtain ⟨t, ht, rfl⟩ := loop_good (b := fun s : List Int × Int × Int => r03_As_l3 l s.1 s.2.1 s.2.2) (s := (pre, 0, 0))
    (fun s => ∃ i k : Nat, s.2.2 = i ∧ s.2.1 = k ∧ k ≤ i ∧ i ≤ l.length ∧ s.1.length ≤ 20 + 20 * i ∧ s.1 ++ bR k (l.drop i) = pre ++ bR 0 l)
    (fun s => ((l.length : Int) - s.2.2).toNat) (fun t => t = pre ++ bR 0 l) ⟨0, 0, rfl, rfl, by omega, by omega, by simpa using hp, by simp⟩ (by
      rintro ⟨acc, q2, q⟩ ⟨i, k, hq, hq2, hki, hil, hacc, hinv⟩
      simp only at hq hq2 hacc hinv
      subst hq hq2
      show (∃ s', r03_As_l3 l acc (k : Int) (i : Int) = some (.inl s') ∧ _) ∨ ∃ t, r03_As_l3 l acc (k : Int) (i : Int) = some (.inr t) ∧ _
      unfold r03_As_l3
      by_cases hlt : i < l.length
      · rw [if_pos (by simp only [decide_eq_true_eq]; omega), lt_, w64 (by omega) (by omega)]
        have hx := List.getElem?_eq_getElem hlt
        obtain ⟨x, hxe⟩ : ∃ x, x = l[i] := ⟨_, rfl⟩
        rw [← hxe] at hx
        have hd : l.drop i = x :: l.drop (i + 1) := by rw [List.drop_eq_getElem_cons hlt, ← hxe]
        have hz := uv_length64 (zz_lt (hi.get hx))
        have huk := uv_length64 (n := k) (by omega)
        -- a run's end
        have hend : (bR k (l.drop i) = uv (zz x) ++ uv k ++ bR 0 (l.drop (i + 1))) → (∃ s', r03_As_j2 l acc (k : Int) (i : Int) false = some (.inl s') ∧ (∃ i k : Nat, s'.2.2 = i ∧ s'.2.1 = k ∧ k ≤ i ∧ i ≤ l.length ∧ s'.1.length ≤ 20 + 20 * i ∧ s'.1 ++ bR k (l.drop i) = pre ++ bR 0 l) ∧ ((l.length : Int) - s'.2.2).toNat < ((l.length : Int) - (i : Int)).toNat) := by
          intro he
          unfold r03_As_j2 r03_As_b5
          rw [if_neg (by simp), at_int rfl hx]
          simp only [Option.bind_some]
          rw [rInt_eq (hi.get hx)]
          simp only [Option.bind_some]
          rw [chk_pos (by omega), rUint_eq k (by omega)]
          simp only [Option.bind_some, lt_]
          rw [chk_pos (by simp only [List.length_append]; omega), w64 (by omega) (by omega)]
          refine ⟨_, rfl, ⟨i + 1, 0, by simp, rfl, by omega, by omega, by simp only [List.length_append]; omega, ?_⟩, by simp only; omega⟩
          rw [← hinv, he]
          simp
        by_cases hlt2 : i + 1 < l.length
        · have hy := List.getElem?_eq_getElem hlt2
          obtain ⟨y, hye⟩ : ∃ y, y = l[i + 1] := ⟨_, rfl⟩
          rw [← hye] at hy
          have hd2 : l.drop (i + 1) = y :: l.drop (i + 1 + 1) := by rw [List.drop_eq_getElem_cons hlt2, ← hye]
          rw [if_pos (by simp only [decide_eq_true_eq]; omega), at_int (n := i + 1) (by omega) hy, at_int rfl hx]
          simp only [Option.bind_some]
          by_cases hyx : y = x
          · rw [show (y == x) = true by simpa using hyx]
            unfold r03_As_j2 r03_As_b5
            rw [if_pos rfl, lt_, u64w (by omega) (by omega), lt_, w64 (by omega) (by omega)]
            refine .inl ⟨_, rfl, ⟨i + 1, k + 1, by simp, by simp, by omega, by omega, by simp only; omega, ?_⟩, by simp only; omega⟩
            rw [← hinv, hd, hd2, bR, if_pos hyx]
          · rw [show (y == x) = false by simpa using hyx]
            exact .inl (hend (by rw [hd, hd2, bR, if_neg hyx]))
        · rw [if_neg (by simp only [decide_eq_true_eq]; omega)]
          have hd2 : l.drop (i + 1) = [] := List.drop_of_length_le (by omega)
          exact .inl (hend (by rw [hd, hd2]; simp [bR]))
      · rw [if_neg (by simp only [decide_eq_true_eq]; omega)]
        refine .inr ⟨_, rfl, ?_⟩
        rw [← hinv, show i = l.length by omega, List.drop_length]
        simp [bR])
  exact ht
end
end Go.Proofs.Ythokgnonmcgkcaa.P
