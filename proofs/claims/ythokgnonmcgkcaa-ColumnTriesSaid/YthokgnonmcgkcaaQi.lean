/- What is laid is read; the laws of whole numbers. -/
import Derived.Test.YthokgnonmcgkcaaQh
import Derived.Test.YthokgnonmcgkcaaDe
import Derived.Test.YthokgnonmcgkcaaEh
namespace Go.Proofs.Ythokgnonmcgkcaa.P
open Go Go.RowKit Go.Proofs.Ythokgnonmcgkcaa.E Go.Proofs.Ythokgnonmcgkcaa.M
set_option linter.unusedVariables false

theorem pMany_b0 : ∀ (l r : List Int), I64 l → pMany l.length (b0 l ++ r) = some (l, r)
  | [], r, _ => rfl
  | x :: l, r, h => by
    have e : b0 (x :: l) ++ r = uv (zz x) ++ (b0 l ++ r) := by simp [b0]
    rw [e, List.length_cons, pMany, pI_uv (h x List.mem_cons_self)]
    simp only
    rw [pMany_b0 l r fun y hy => h y (List.mem_cons_of_mem _ hy)]
theorem wrap_back (a x : Int) (h : i64 x) : IntKind.i64.wrap (a + IntKind.i64.wrap (x - a)) = x := by
  unfold i64 at h
  rw [IntWalk.i64_left, IntWalk.i64_left]
  unfold wrap64
  omega
theorem pD_bD : ∀ (l r : List Int) (a : Int), I64 l → pD a l.length (bD a l ++ r) = some (l, r)
  | [], r, a, _ => rfl
  | x :: l, r, a, h => by
    rw [bD, List.length_cons, pD, List.append_assoc, pI_uv (i64_wrap _)]
    simp only
    rw [wrap_back a x (h x List.mem_cons_self), pD_bD l r x fun y hy => h y (List.mem_cons_of_mem _ hy)]
theorem pR_bR : ∀ (f : Nat) (l r : List Int), I64 l → l.length ≤ f → l.length ≤ 4096 → pR f l.length (bR 0 l ++ r) = some (l, r)
  | 0, l, r, _, hf, _ => by
    have : l = [] := List.eq_nil_of_length_eq_zero (by omega)
    subst this
    rfl
  | f + 1, [], r, _, _, _ => rfl
  | f + 1, x :: l, r, h, hf, hl => by
    obtain ⟨m, tl, hm, htl⟩ := run_split x l
    subst hm
    have hlen : (x :: (List.replicate m x ++ tl)).length = m + 1 + tl.length := by simp; omega
    rw [hlen] at hf hl ⊢
    rw [pR, if_neg (by omega), bR_run x tl htl m 0, Nat.zero_add, List.append_assoc, List.append_assoc, pI_uv (h x List.mem_cons_self)]
    simp only
    rw [pU_uv (by omega) _ (by omega)]
    simp only [Int.toNat_natCast]
    rw [show m + 1 + tl.length - (m + 1) = tl.length by omega, pR_bR f tl r (fun y hy => h y (List.mem_cons_of_mem _ (List.mem_append.2 (.inr hy)))) (by omega) (by omega)]
    simp only [List.replicate_succ, List.cons_append]
theorem toN_ofN (D : List Nat) : toN (ofN D) = D := by
  unfold toN ofN
  rw [List.map_map]
  have : (Int.toNat ∘ fun (n : Nat) => (n : Int)) = id := by funext n; simp
  rw [this, List.map_id]
theorem pk_back {x lo : Int} (hm : i64 x) (hlo : i64 lo) (h : lo ≤ x) : IntKind.i64.wrap (IntKind.i64.wrap (((x - lo).toNat : Nat) : Int) + lo) = x := by
  unfold i64 at hm hlo
  rw [IntWalk.i64_left, IntWalk.i64_left]
  unfold wrap64
  omega
theorem V_by_V {n w : Nat} {D : List Nat} (hv : V w D < 2 ^ (n * w)) : V 8 (by_ ((n * w + 7) / 8) (V w D)) = V w D := by
  refine V_by _ _ (Nat.lt_of_lt_of_le hv (Nat.pow_le_pow_right (by decide) ?_))
  generalize n * w = a
  omega
theorem pP_pk {x : Int} {l : List Int} (hl : (x :: l).length ≤ 4096) (hi : I64 (x :: l)) : pP (x :: l).length (pk (x :: l)) = some (x :: l, []) := by
  have hlo := mn_i64 hi
  have hle := mn_all (x := x) (l := l)
  have hw : wdt (ds (mn x l) (x :: l)) ≤ 64 := by
    have := wdt_64 hi hlo hle (x :: l).length
    rwa [List.take_of_length_le (by rw [ds_length]; exact Nat.le_refl _)] at this
  have hL := Lt_wdt (ds (mn x l) (x :: l))
  have hv := V_lt hL
  rw [ds_length] at hv
  unfold pP
  simp only [pk]
  generalize wdt (ds (mn x l) (x :: l)) = w at hw hL hv ⊢
  rw [List.append_assoc, pI_uv hlo]
  simp only [List.singleton_append, pB, Int.toNat_natCast]
  have hV8 := V_by_V hv
  rw [toN_ofN, hV8, if_pos ⟨by omega, by rw [ofN_length, by_length], hv⟩]
  congr 2
  refine ext_int (by simp [part_length]) fun j hj => ?_
  rw [List.length_map, part_length] at hj
  have hx := List.getElem?_eq_getElem hj
  have hm := hi.get hx
  have hmle := hle _ (List.mem_of_getElem? hx)
  rw [List.getElem?_map, part_get hj, V_get hL (ds_get hx), hx]
  simp only [Option.map_some, Option.some.injEq]
  exact pk_back hm hlo hmle

theorem read_as {w : Nat} {l : List Int} (hw : w < 4) (hl : l.length ≤ 4096) (hi : I64 l) : readL (asL w l) = some l := by
  unfold readL pInts asL
  simp only [pB]
  rw [if_pos (by omega), pU_uv (by omega) _ (by omega)]
  simp only [Int.toNat_natCast]
  have key : pBody (w : Int) l.length (body w l) = some (l, []) := by
    unfold pBody
    match w, hw with
    | 0, _ =>
      rw [if_pos (by rfl)]
      have := pMany_b0 l [] hi
      rwa [List.append_nil] at this
    | 1, _ =>
      rw [if_neg (by decide), if_pos (by rfl)]
      have := pD_bD l [] 0 hi
      rwa [List.append_nil] at this
    | 2, _ =>
      rw [if_neg (by decide), if_neg (by decide), if_pos (by rfl)]
      have := pR_bR l.length l [] hi (Nat.le_refl _) hl
      rwa [List.append_nil] at this
    | 3, _ =>
      rw [if_neg (by decide), if_neg (by decide), if_neg (by decide)]
      cases l with
      | nil => rfl
      | cons x l => rw [if_pos (by simp)]; exact pP_pk hl hi
  rw [key]
theorem shorter_or (a b : List Int) : shorter a b = a ∨ shorter a b = b := by
  unfold shorter
  split
  · exact .inr rfl
  · exact .inl rfl
theorem shorter_le (a b : List Int) : (shorter a b).length ≤ a.length ∧ (shorter a b).length ≤ b.length := by
  unfold shorter
  split <;> omega
theorem intsL_as (l : List Int) : ∃ w < 4, intsL l = asL w l := by
  unfold intsL
  rcases shorter_or (shorter (shorter (asL 0 l) (asL 1 l)) (asL 2 l)) (asL 3 l) with h | h
  · rw [h]
    rcases shorter_or (shorter (asL 0 l) (asL 1 l)) (asL 2 l) with h | h
    · rw [h]
      rcases shorter_or (asL 0 l) (asL 1 l) with h | h
      · exact ⟨0, by decide, h⟩
      · exact ⟨1, by decide, h⟩
    · exact ⟨2, by decide, h⟩
  · exact ⟨3, by decide, h⟩
theorem intsL_le (l : List Int) {w : Nat} (hw : w < 4) : (intsL l).length ≤ (asL w l).length := by
  have h3 := shorter_le (shorter (shorter (asL 0 l) (asL 1 l)) (asL 2 l)) (asL 3 l)
  have h2 := shorter_le (shorter (asL 0 l) (asL 1 l)) (asL 2 l)
  have h1 := shorter_le (asL 0 l) (asL 1 l)
  unfold intsL
  match w, hw with
  | 0, _ => omega
  | 1, _ => omega
  | 2, _ => omega
  | 3, _ => omega
theorem read_ints {l : List Int} (hl : l.length ≤ 4096) (hi : I64 l) : readL (intsL l) = some l := by
  obtain ⟨w, hw, e⟩ := intsL_as l
  rw [e, read_as hw hl hi]

theorem Bs.ofN {D : List Nat} (h : Lt 8 D) : Bs (ofN D) := by
  intro b hb
  obtain ⟨d, hd, rfl⟩ := List.mem_map.1 hb
  have := h d hd
  omega
theorem Bs_b0 : ∀ (l : List Int), Bs (b0 l)
  | [] => Bs.nil
  | x :: l => by
    have e : b0 (x :: l) = uv (zz x) ++ b0 l := by simp [b0]
    rw [e]
    exact (Bs.uv _).app (Bs_b0 l)
theorem Bs_bD : ∀ (l : List Int) (a : Int), Bs (bD a l)
  | [], _ => Bs.nil
  | x :: l, a => (Bs.uv _).app (Bs_bD l x)
theorem Bs_bR : ∀ (l : List Int) (k : Nat), Bs (bR k l)
  | [], _ => Bs.nil
  | [x], k => (Bs.uv _).app (Bs.uv _)
  | x :: y :: l, k => by
    unfold bR
    split
    · exact Bs_bR (y :: l) _
    · exact ((Bs.uv _).app (Bs.uv _)).app (Bs_bR (y :: l) _)
theorem Bs_pk {l : List Int} (hi : I64 l) : Bs (pk l) := by
  cases l with
  | nil => exact Bs.nil
  | cons x l =>
    have hlo := mn_i64 hi
    have hle := mn_all (x := x) (l := l)
    have hw : wdt (ds (mn x l) (x :: l)) ≤ 64 := by
      have := wdt_64 hi hlo hle (x :: l).length
      rwa [List.take_of_length_le (by rw [ds_length]; exact Nat.le_refl _)] at this
    exact ((Bs.uv _).app (Bs.mk (by omega) Bs.nil)).app (Bs.ofN (by_lt _ _))
theorem Bs_as {w : Nat} {l : List Int} (hw : w < 4) (hi : I64 l) : Bs (asL w l) := by
  refine Bs.mk (by omega) ((Bs.uv _).app ?_)
  match w, hw with
  | 0, _ => exact Bs_b0 l
  | 1, _ => exact Bs_bD l 0
  | 2, _ => exact Bs_bR l 0
  | 3, _ => exact Bs_pk hi
theorem len_pk {l : List Int} (hl : l.length ≤ 4096) (hi : I64 l) : (pk l).length ≤ 11 + (l.length * 64 + 7) / 8 := by
  cases l with
  | nil => simp [pk]
  | cons x l =>
    have hlo := mn_i64 hi
    have hle := mn_all (x := x) (l := l)
    have hw : wdt (ds (mn x l) (x :: l)) ≤ 64 := by
      have := wdt_64 hi hlo hle (x :: l).length
      rwa [List.take_of_length_le (by rw [ds_length]; exact Nat.le_refl _)] at this
    have hz := uv_length64 (zz_lt hlo)
    have := Nat.mul_le_mul_left (x :: l).length hw
    simp only [pk, List.length_append, List.length_singleton, ofN_length, by_length]
    generalize (x :: l).length = n at *
    omega
theorem len_as {w : Nat} {l : List Int} (hw : w < 4) (hl : l.length ≤ 4096) (hi : I64 l) : (asL w l).length ≤ 1048576 := by
  have hu := uv_length64 (n := l.length) (by omega)
  unfold asL
  simp only [List.length_cons, List.length_append]
  match w, hw with
  | 0, _ => have := len_b0 hi; simp only [body]; omega
  | 1, _ => have := len_bD l 0; simp only [body]; omega
  | 2, _ => have := len_bR l 0 hi (by omega); simp only [body]; omega
  | 3, _ => have := len_pk hl hi; simp only [body]; omega
theorem ReadInts_as {w : Nat} {l : List Int} (hw : w < 4) (hl : l.length ≤ 4096) (hi : I64 l) : column_ReadInts (asL w l) = some (l, 0) := by
  rw [ReadInts_col (Bs_as hw hi) (by have := len_as hw hl hi; omega), read_as hw hl hi]

theorem lints_eq (l : List Int) (h : l.length < 1099511627776) : law03_ints l l = some true := by
  unfold law03_ints
  rw [if_neg (by simp)]
  have := loop_to (b := fun s : Int => law03_ints_l1 l l s) (fun k => (k : Int)) (t := Sum.inl ()) l.length (fun k hk => by
    have hx := List.getElem?_eq_getElem hk
    show law03_ints_l1 l l (k : Int) = _
    unfold law03_ints_l1
    rw [if_pos (by simp only [decide_eq_true_eq]; omega), at_int rfl hx]
    simp only [Option.bind_some]
    rw [if_neg (by simp), lt_, w64 (by omega) (by omega)]
    rfl) (by
    show law03_ints_l1 l l (l.length : Int) = _
    unfold law03_ints_l1
    rw [if_neg (by simp)])
  rw [show (0 : Int) = ((0 : Nat) : Int) from rfl, this]
  rfl

theorem ints777 : intsL [7, 7, 7] = [2, 3, 14, 2] := by
  have u3 : uv 3 = [3] := uv_small (by decide)
  have u14 : uv 14 = [14] := uv_small (by decide)
  have u0 : uv 0 = [0] := uv_small (by decide)
  have u2 : uv 2 = [2] := uv_small (by decide)
  have z7 : zz 7 = 14 := rfl
  have a0 : asL 0 [7, 7, 7] = [0, 3, 14, 14, 14] := by simp [asL, body, b0, u3, z7, u14]
  have a1 : asL 1 [7, 7, 7] = [1, 3, 14, 0, 0] := by
    have w7 : IntKind.i64.wrap (7 - 0) = 7 := rfl
    have w0 : IntKind.i64.wrap (7 - 7) = 0 := rfl
    have z0 : zz 0 = 0 := rfl
    simp only [asL, body, bD, w7, w0, z7, z0, u14, u0, List.length_cons, List.length_nil, Nat.zero_add, u3]
    rfl
  have a2 : asL 2 [7, 7, 7] = [2, 3, 14, 2] := by simp [asL, body, bR, u3, z7, u14, u2]
  have a3 : asL 3 [7, 7, 7] = [3, 3, 14, 0] := by
    have e : ds (mn 7 [7, 7]) [7, 7, 7] = [0, 0, 0] := rfl
    have hw : wdt [0, 0, 0] = 0 := by simp [wdt, bl_zero]
    simp only [asL, body, pk, e, hw, List.length_cons, List.length_nil, Nat.zero_add, u3]
    simp [by_, ofN, show zz (mn 7 [7, 7]) = 14 from rfl, u14]
  unfold intsL
  rw [a0, a1, a2, a3]
  rfl
theorem I64_777 : I64 [7, 7, 7] := by
  intro x hx
  simp at hx
  subst hx
  unfold i64
  omega
theorem awake3_eq : law03_awake = some true := by
  unfold law03_awake
  rw [Ints_col (by decide) I64_777, ints777]
  rfl

theorem gI64 {n : Int} (h : gI .i64 n) : i64 n := by
  unfold gI Lit.wf at h
  simp only [Bool.and_eq_true, decide_eq_true_eq] at h
  exact h
end Go.Proofs.Ythokgnonmcgkcaa.P
