/- Numbers by their bits, in plain words. -/
import Derived.Test.YtpanacifejpjhaaPf
import Derived.Test.YtpanacifejpjhaaDh
namespace Go.Proofs.Ytpanacifejpjhaa.P
open Go Go.RowKit Go.Proofs.Ytpanacifejpjhaa.E Go.Proofs.Ytpanacifejpjhaa.M
set_option linter.unusedVariables false

def nanB (a : Nat) : Bool := a / 4503599627370496 % 2048 == 2047 && a % 4503599627370496 != 0

theorem order_self (d : Ieee.Datum) : (d.order d == some .eq) = !d.isNaN := by
  cases d with
  | number s m p => simp [Ieee.Datum.order, Ieee.Datum.isNaN]
  | infinity s => simp [Ieee.Datum.order, Ieee.Datum.isNaN]
  | nan s f => simp [Ieee.Datum.order, Ieee.Datum.isNaN]

theorem feq_self (a : Nat) : feq a a = !nanB a := by
  unfold feq Ieee.Format.order
  rw [order_self]
  congr 1
  unfold Ieee.Format.read nanB
  have e1 : FloatKind.f64.format.signWeight = 9223372036854775808 := by decide
  have e2 : FloatKind.f64.format.binade = 4503599627370496 := by decide
  have e3 : FloatKind.f64.format.infRung = 9218868437227405312 := by decide
  simp only [e1, e2, e3]
  rw [Bool.eq_iff_iff]
  simp only [Bool.and_eq_true, beq_iff_eq, bne_iff_ne, ne_eq]
  split
  · simp [Ieee.Datum.isNaN]; omega
  · split
    · simp [Ieee.Datum.isNaN]; omega
    · split
      · simp [Ieee.Datum.isNaN]; omega
      · simp [Ieee.Datum.isNaN]; omega

theorem Bits_eq (a : Nat) (h : a < 18446744073709551616) : r01_Bits a = some (if nanB a then 9221120237041090560 else (a : Int)) := by
  unfold r01_Bits r01_Bits_j1 nanB
  have e1 : ishr .u64 (a : Int) 52 = ((a / 4503599627370496 : Nat) : Int) := by
    unfold ishr
    rw [show (52 : Int).toNat = 52 from rfl, show IntKind.u64.bits = 64 from rfl, show min 52 64 = 52 from rfl, Int.fdiv_eq_ediv_of_nonneg _ (by decide)]
    rfl
  have e2 : (((a / 4503599627370496 : Nat) : Int)).tmod 2048 = ((a / 4503599627370496 % 2048 : Nat) : Int) := by
    rw [Int.tmod_eq_emod_of_nonneg (by omega)]; rfl
  have e3 : ((a : Int)).tmod 4503599627370496 = ((a % 4503599627370496 : Nat) : Int) := by
    rw [Int.tmod_eq_emod_of_nonneg (by omega)]; rfl
  rw [e1, e2, e3]
  by_cases h1 : a / 4503599627370496 % 2048 = 2047
  · by_cases h2 : a % 4503599627370496 = 0
    · simp [h1, h2]
    · simp [h1, h2]; omega
  · have : ((a / 4503599627370496 % 2048 : Nat) : Int) ≠ 2047 := by omega
    simp only [beq_iff_eq, this, if_false]
    simp [h1]

theorem realBits_eq (a : Nat) : real_Bits a = some (if nanB a then 9221120237041090560 else (a : Int)) := by
  unfold real_Bits real_Canon math_IsNaN
  simp only [Option.bind_some, feq_self]
  cases nanB a <;> rfl

theorem evSame_eq (x y : S30) (hx : x.f4 < 18446744073709551616) (hy : y.f4 < 18446744073709551616) : event_Same x y = r06_Same x y := by
  unfold event_Same r06_Same real_Same r01_Same
  rw [realBits_eq, realBits_eq, Bits_eq _ hx, Bits_eq _ hy]

/-! #### the library's insertion sort -/
theorem cmp_eq (x y : S30) : ∃ k, event_Sort_1 x y = some k ∧ (decide (k < 0)) = bef x y := by
  unfold event_Sort_1
  simp only [Less_eq, Option.bind_some]
  cases bef x y with
  | true => exact ⟨-1, rfl, rfl⟩
  | false => cases bef y x <;> exact ⟨_, rfl, rfl⟩

theorem swap_list {α : Type} (A B : List α) (x y : α) : ((A ++ y :: x :: B).set (A.length + 1) y).set A.length x = A ++ x :: y :: B := by
  induction A with
  | nil => rfl
  | cons a A ih => simp

theorem sink_eq (P R s : List S30) (x : S30) (hs : Srt bef s) (hlen : (P ++ s ++ x :: R).length < 2 ^ 40) :
    loop (fun q : List S30 × Int => slices_insertionSortCmpFunc_api_Event_l2 (P.length : Int) q.1 q.2) (P ++ s ++ x :: R, ((P.length + s.length : Nat) : Int)) = some (P ++ ins bef x s ++ R) := by
  obtain ⟨t, ht, rfl⟩ := loop_good (b := fun q : List S30 × Int => slices_insertionSortCmpFunc_api_Event_l2 (P.length : Int) q.1 q.2) (s := (P ++ s ++ x :: R, ((P.length + s.length : Nat) : Int)))
    (fun q => ∃ m : Nat, q = (P ++ s.take m ++ x :: (s.drop m ++ R), ((P.length + m : Nat) : Int)) ∧ m ≤ s.length ∧ ∀ j y, m ≤ j → s[j]? = some y → bef x y = true) (fun q => q.2.toNat)
    (fun t => t = P ++ ins bef x s ++ R) ⟨s.length, by simp, Nat.le_refl _, fun j y hj hy => by have := (List.getElem?_eq_some_iff.1 hy).1; omega⟩ (by
      rintro q ⟨m, rfl, hm, hhi⟩
      show (∃ s', slices_insertionSortCmpFunc_api_Event_l2 (P.length : Int) (P ++ s.take m ++ x :: (s.drop m ++ R)) ((P.length + m : Nat) : Int) = some (.inl s') ∧ _) ∨ ∃ t, slices_insertionSortCmpFunc_api_Event_l2 (P.length : Int) (P ++ s.take m ++ x :: (s.drop m ++ R)) ((P.length + m : Nat) : Int) = some (.inr t) ∧ _
      simp only [List.length_append, List.length_cons] at hlen
      have hfin : (∀ y, 0 < m → s[m - 1]? = some y → bef x y = false) → P ++ s.take m ++ x :: (s.drop m ++ R) = P ++ ins bef x s ++ R := by
        intro hlo
        rw [← ins_at bef_swo hs hm hlo hhi]
        simp
      unfold slices_insertionSortCmpFunc_api_Event_l2 slices_insertionSortCmpFunc_api_Event_j1
      by_cases h0 : 0 < m
      · have hy : s[m - 1]? = some (s[m - 1]'(by omega)) := List.getElem?_eq_getElem (by omega)
        obtain ⟨y, hyd⟩ : ∃ y, y = s[m - 1]'(by omega) := ⟨_, rfl⟩
        rw [← hyd] at hy
        have htk : s.take m = s.take (m - 1) ++ [y] := by
          have := List.take_add_one (l := s) (i := m - 1)
          rw [show m - 1 + 1 = m by omega, hy] at this
          simpa using this
        have hL : P ++ s.take m ++ x :: (s.drop m ++ R) = (P ++ s.take (m - 1)) ++ y :: x :: (s.drop m ++ R) := by rw [htk]; simp
        have hAl : (P ++ s.take (m - 1)).length = P.length + (m - 1) := by simp; omega
        obtain ⟨A, hA⟩ : ∃ A, A = P ++ s.take (m - 1) := ⟨_, rfl⟩
        rw [hL, ← hA]
        rw [← hA] at hAl
        have g1 : (A ++ y :: x :: (s.drop m ++ R))[P.length + m]? = some x := by rw [List.getElem?_append_right (by omega), show P.length + m - A.length = 1 by omega]; rfl
        have g2 : (A ++ y :: x :: (s.drop m ++ R))[P.length + m - 1]? = some y := by rw [List.getElem?_append_right (by omega), show P.length + m - 1 - A.length = 0 by omega]; rfl
        have e1 : IntKind.i64.wrap (((P.length + m : Nat) : Int) - 1) = ((P.length + m - 1 : Nat) : Int) := by rw [w64 (by omega) (by omega)]; omega
        obtain ⟨k, hk, hkb⟩ := cmp_eq x y
        rw [if_pos (by simp only [decide_eq_true_eq]; omega), at_int rfl g1, e1, at_int rfl g2]
        simp only [Option.bind_some, hk, hkb]
        cases hb : bef x y with
        | true =>
          have g3 : ((A ++ y :: x :: (s.drop m ++ R)).set (P.length + m) y)[P.length + m - 1]? = some y := by rw [List.getElem?_set_ne (by omega), g2]
          simp only [Int.toNat_natCast, if_true, at_int rfl g3, Option.bind_some]
          refine .inl ⟨_, rfl, ⟨m - 1, ?_, by omega, fun j z hj hz => ?_⟩, by simp only; omega⟩
          · have := swap_list A (s.drop m ++ R) x y
            rw [hAl, show P.length + (m - 1) + 1 = P.length + m by omega, show P.length + (m - 1) = P.length + m - 1 by omega] at this
            have hd : s.drop (m - 1) = y :: s.drop m := by rw [List.drop_eq_getElem_cons (show m - 1 < s.length by omega), ← hyd, show m - 1 + 1 = m by omega]
            rw [this, hA, show P.length + (m - 1) = P.length + m - 1 by omega, hd]
            rfl
          · rcases Nat.lt_or_ge j m with h | h
            · rw [show j = m - 1 by omega, hy] at hz; cases hz; exact hb
            · exact hhi j z h hz
        | false =>
          simp only [Bool.false_eq_true, if_false]
          refine .inr ⟨_, rfl, ?_⟩
          rw [hA, ← hL]
          exact hfin fun z _ hz => by rw [hy] at hz; cases hz; exact hb
      · rw [if_neg (by simp only [decide_eq_true_eq]; omega)]
        simp only [Bool.false_eq_true, if_false]
        exact .inr ⟨_, rfl, hfin fun z h => absurd h h0⟩)
  exact ht

theorem insSort_eq (l : List S30) (a b : Nat) (hab : a ≤ b) (hb : b ≤ l.length) (hl : l.length < 2 ^ 40) :
    slices_insertionSortCmpFunc_api_Event l (a : Int) (b : Int) = some (l.take a ++ sortL bef ((l.take b).drop a) ++ l.drop b) := by
  unfold slices_insertionSortCmpFunc_api_Event
  rw [w64 (by omega) (by omega)]
  rcases Nat.lt_or_ge a b with hlt | hge
  · have h1 : (l.take (a + 1)).drop a = [l[a]'(by omega)] := by
      rw [List.drop_take, show a + 1 - a = 1 by omega, List.drop_eq_getElem_cons (by omega)]
      rfl
    have := loop_at (b := fun s : List S30 × Int => slices_insertionSortCmpFunc_api_Event_l1 (a : Int) (b : Int) s.1 s.2) (fun k => (l.take a ++ sortL bef ((l.take k).drop a) ++ l.drop k, (k : Int))) (t := l.take a ++ sortL bef ((l.take b).drop a) ++ l.drop b) (b - (a + 1)) (a + 1) (fun k hk1 hk2 => by
      show slices_insertionSortCmpFunc_api_Event_l1 (a : Int) (b : Int) (l.take a ++ sortL bef ((l.take k).drop a) ++ l.drop k) (k : Int) = _
      have hkl : k < l.length := by omega
      have hal : (l.take a).length = a := by simp; omega
      have hsl : (sortL bef ((l.take k).drop a)).length = k - a := by rw [sortL_length]; simp; omega
      have hs := sink_eq (l.take a) (l.drop (k + 1)) (sortL bef ((l.take k).drop a)) (l[k]'hkl) (sortL_srt bef_swo _) (by
        simp only [List.length_append, List.length_cons, List.length_drop, hal, hsl]; omega)
      rw [hal, hsl, ← List.drop_eq_getElem_cons hkl, show a + (k - a) = k by omega] at hs
      unfold slices_insertionSortCmpFunc_api_Event_l1
      rw [if_pos (by simp only [decide_eq_true_eq]; omega), hs]
      simp only [Option.bind_some]
      unfold slices_insertionSortCmpFunc_api_Event_x2_2 slices_insertionSortCmpFunc_api_Event_b2
      rw [w64 (by omega) (by omega), ← sortL_append]
      have : (l.take (k + 1)).drop a = (l.take k).drop a ++ [l[k]'hkl] := by
        rw [List.take_add_one, List.getElem?_eq_getElem hkl, List.drop_append_of_le_length (by simp; omega)]
        rfl
      rw [this]
      rfl) (by
      show slices_insertionSortCmpFunc_api_Event_l1 (a : Int) (b : Int) (l.take a ++ sortL bef ((l.take (a + 1 + (b - (a + 1)))).drop a) ++ l.drop (a + 1 + (b - (a + 1)))) ((a + 1 + (b - (a + 1)) : Nat) : Int) = _
      rw [show a + 1 + (b - (a + 1)) = b by omega]
      unfold slices_insertionSortCmpFunc_api_Event_l1
      rw [if_neg (by simp)])
    have h2 : (l, (a : Int) + 1) = (l.take a ++ sortL bef ((l.take (a + 1)).drop a) ++ l.drop (a + 1), ((a + 1 : Nat) : Int)) := by
      rw [h1]
      have : l.take a ++ sortL bef [l[a]'(by omega)] ++ l.drop (a + 1) = l := by
        show l.take a ++ [l[a]'(by omega)] ++ l.drop (a + 1) = l
        rw [List.append_assoc, List.singleton_append, ← List.drop_eq_getElem_cons (by omega), List.take_append_drop]
      rw [this]; rfl
    rw [h2, this]
    rfl
  · obtain rfl : a = b := by omega
    have h0 : (l.take a).drop a = [] := List.drop_eq_nil_of_le (by simp; omega)
    rw [loop_end (t := l) (by
      show slices_insertionSortCmpFunc_api_Event_l1 (a : Int) (a : Int) l ((a : Int) + 1) = _
      unfold slices_insertionSortCmpFunc_api_Event_l1
      rw [if_neg (by simp only [decide_eq_true_eq]; omega)])]
    rw [h0]
    show some l = some (l.take a ++ [] ++ l.drop a)
    simp

theorem small_eq (l : List S30) (h : l.length < 20) : event_Sort l = some (sortL bef l) := by
  unfold event_Sort slices_Clone_api_Event_api_Event slices_SortStableFunc_api_Event_api_Event
  have hc : nilsplit l.isEmpty (some []) (chk (([] : List S30).length + l.length ≤ 140737488355328 / 48) (some l)) = some l := by
    rw [chk_pos (by simp; omega)]
    unfold nilsplit
    cases l <;> simp
  rw [hc]
  simp only [Option.bind_some]
  unfold slices_stableCmpFunc_api_Event
  rw [loop_end (t := (l, 0)) (by
    show slices_stableCmpFunc_api_Event_l3 (l.length : Int) l 0 20 = _
    unfold slices_stableCmpFunc_api_Event_l3
    rw [if_neg (by simp only [decide_eq_true_eq]; omega)])]
  simp only [Option.bind_some]
  unfold slices_stableCmpFunc_api_Event_x3_0 slices_stableCmpFunc_api_Event_b1
  have hi := insSort_eq l 0 l.length (Nat.zero_le _) (Nat.le_refl _) (by omega)
  rw [show ((0 : Nat) : Int) = 0 from rfl] at hi
  rw [hi]
  simp only [Option.bind_some, List.take_zero, List.drop_zero, List.nil_append, List.take_length, List.drop_length, List.append_nil]
  rw [loop_end (t := sortL bef l) (by
    show slices_stableCmpFunc_api_Event_l1 (l.length : Int) (sortL bef l) 20 = _
    unfold slices_stableCmpFunc_api_Event_l1
    rw [if_neg (by simp only [decide_eq_true_eq]; omega)])]
  rfl

theorem awake6_eq : law06_awake = some true := by
  unfold law06_awake
  rw [small_eq _ (by simp)]
  have hs : sortL bef [(⟨0, 0, 1, [98], 0⟩ : S30), ⟨0, 0, 2, [97], 0⟩, ⟨0, 0, 1, [97], 0⟩] = [⟨0, 0, 1, [97], 0⟩, ⟨0, 0, 2, [97], 0⟩, ⟨0, 0, 1, [98], 0⟩] := rfl
  rw [hs]
  rfl

theorem Same_total (x y : S30) : ∃ b, r06_Same x y = some b := by
  unfold r06_Same r01_Same
  obtain ⟨v, hv⟩ := Bits_some x.f4
  obtain ⟨w, hw⟩ := Bits_some y.f4
  rw [hv, hw]
  repeat' split
  all_goals exact ⟨_, rfl⟩

theorem Form_total (x : S30) (k : Int) : ∃ b, r06_Form x k = some b := by
  unfold r06_Form
  repeat' split
  all_goals exact ⟨_, rfl⟩

theorem EventForms (a0 a1 : S30) (a2 : Int) (h0 : g30 a0) (h1 : g30 a1) (_h2 : gI .i64 a2) : law06_EventForms a0 a1 a2 = some true := by
  have hb : ∀ x : S30, g30 x → x.f4 < 18446744073709551616 := by
    intro x hx
    have := hx.2.2.2.2
    unfold gF Lit.wf at this
    simpa using this
  have hf : event_Form a0 a2 = r06_Form a0 a2 := rfl
  unfold law06_EventForms
  rw [awake6_eq, hf, evSame_eq _ _ (hb _ h0) (hb _ h1), evSame_eq _ _ (hb _ h0) (hb _ h0), Same_self]
  obtain ⟨f, hf⟩ := Form_total a0 a2
  obtain ⟨s, hs⟩ := Same_total a0 a1
  simp [hf, hs, Less_eq, Before_eq]
end Go.Proofs.Ytpanacifejpjhaa.P
