/- Texts of the claim, joined: what it uses of Ph, Pi, Pj, Pk, Pl, Pm, Po, Rb, Rc, Rd, Re, Rf, Rj, Rk, Rp, Rm, Ro, Sa, Sb, Sc. -/
import Derived.Test.YthokgnonmcgkcaaDoorZi
import Derived.Sort.Walk0
namespace Go.Proofs.YthokgnonmcgkcaaDoor.P
open Go Go.RowKit Go.Proofs.YthokgnonmcgkcaaDoor.E Go.Proofs.YthokgnonmcgkcaaDoor.M
set_option linter.unusedVariables false
set_option linter.unusedSectionVars false
theorem cmp_eq (x y : S39) : ∃ k, event_Sort_1 x y = some k ∧ (decide (k < 0)) = bef x y := by
  unfold event_Sort_1
  simp only [Less_eq, Option.bind_some]
  cases bef x y with
  | true => exact ⟨-1, rfl, rfl⟩
  | false => cases bef y x <;> exact ⟨_, rfl, rfl⟩
theorem swap_list {α : Type} (A B : List α) (x y : α) : ((A ++ y :: x :: B).set (A.length + 1) y).set A.length x = A ++ x :: y :: B := by
  induction A with
  | nil => rfl
  | cons a A ih => simp
theorem sink_eq (P R s : List S39) (x : S39) (hs : Srt bef s) (hlen : (P ++ s ++ x :: R).length < 2 ^ 40) :
    loop (fun q : List S39 × Int => slices_insertionSortCmpFunc_api_Event_l2 (P.length : Int) q.1 q.2) (P ++ s ++ x :: R, ((P.length + s.length : Nat) : Int)) = some (P ++ ins bef x s ++ R) := by
  obtain ⟨t, ht, rfl⟩ := loop_good (b := fun q : List S39 × Int => slices_insertionSortCmpFunc_api_Event_l2 (P.length : Int) q.1 q.2) (s := (P ++ s ++ x :: R, ((P.length + s.length : Nat) : Int)))
    (fun q => ∃ m : Nat, q = (P ++ s.take m ++ x :: (s.drop m ++ R), ((P.length + m : Nat) : Int)) ∧ m ≤ s.length ∧ ∀ j y, m ≤ j → s[j]? = some y → bef x y = true) (fun q => q.2.toNat)
    (fun t => t = P ++ ins bef x s ++ R) ⟨s.length, by simp, Nat.le_refl _, fun j y hj hy => by have := (List.getElem?_eq_some_iff.1 hy).1; omega⟩ (by
      rintro q ⟨m, rfl, hm, hhi⟩
      show (∃ s', slices_insertionSortCmpFunc_api_Event_l2 (P.length : Int) (P ++ s.take m ++ x :: (s.drop m ++ R)) ((P.length + m : Nat) : Int) = some (.inl s') ∧ _) ∨ ∃ t, slices_insertionSortCmpFunc_api_Event_l2 (P.length : Int) (P ++ s.take m ++ x :: (s.drop m ++ R)) ((P.length + m : Nat) : Int) = some (.inr t) ∧ _
      simp only [List.length_append, List.length_cons] at hlen
      have hfin : (∀ y, 0 < m → s[m - 1]? = some y → bef x y = false) → P ++ s.take m ++ x :: (s.drop m ++ R) = P ++ ins bef x s ++ R := by
        intro hlo
        rw [← ins_at bef_swo hs hm hlo hhi]
        simp
      unfold slices_insertionSortCmpFunc_api_Event_l2 slices_insertionSortCmpFunc_api_Event_j1
      by_cases h0 : 0 < m
      · have hy : s[m - 1]? = some (s[m - 1]'(by omega)) := List.getElem?_eq_getElem (by omega)
        obtain ⟨y, hyd⟩ : ∃ y, y = s[m - 1]'(by omega) := ⟨_, rfl⟩
        rw [← hyd] at hy
        have htk : s.take m = s.take (m - 1) ++ [y] := by
          have := List.take_add_one (l := s) (i := m - 1)
          rw [show m - 1 + 1 = m by omega, hy] at this
          simpa using this
        have hL : P ++ s.take m ++ x :: (s.drop m ++ R) = (P ++ s.take (m - 1)) ++ y :: x :: (s.drop m ++ R) := by rw [htk]; simp
        have hAl : (P ++ s.take (m - 1)).length = P.length + (m - 1) := by simp; omega
        obtain ⟨A, hA⟩ : ∃ A, A = P ++ s.take (m - 1) := ⟨_, rfl⟩
        rw [hL, ← hA]
        rw [← hA] at hAl
        have g1 : (A ++ y :: x :: (s.drop m ++ R))[P.length + m]? = some x := by rw [List.getElem?_append_right (by omega), show P.length + m - A.length = 1 by omega]; rfl
        have g2 : (A ++ y :: x :: (s.drop m ++ R))[P.length + m - 1]? = some y := by rw [List.getElem?_append_right (by omega), show P.length + m - 1 - A.length = 0 by omega]; rfl
        have e1 : IntKind.i64.wrap (((P.length + m : Nat) : Int) - 1) = ((P.length + m - 1 : Nat) : Int) := by rw [w64 (by omega) (by omega)]; omega
        obtain ⟨k, hk, hkb⟩ := cmp_eq x y
        rw [if_pos (by simp only [decide_eq_true_eq]; omega), at_int rfl g1, e1, at_int rfl g2]
        simp only [Option.bind_some, hk, hkb]
        cases hb : bef x y with
        | true =>
          have g3 : ((A ++ y :: x :: (s.drop m ++ R)).set (P.length + m) y)[P.length + m - 1]? = some y := by rw [List.getElem?_set_ne (by omega), g2]
          simp only [Int.toNat_natCast, if_true, at_int rfl g3, Option.bind_some]
          refine .inl ⟨_, rfl, ⟨m - 1, ?_, by omega, fun j z hj hz => ?_⟩, by simp only; omega⟩
          · have := swap_list A (s.drop m ++ R) x y
            rw [hAl, show P.length + (m - 1) + 1 = P.length + m by omega, show P.length + (m - 1) = P.length + m - 1 by omega] at this
            have hd : s.drop (m - 1) = y :: s.drop m := by rw [List.drop_eq_getElem_cons (show m - 1 < s.length by omega), ← hyd, show m - 1 + 1 = m by omega]
            rw [this, hA, show P.length + (m - 1) = P.length + m - 1 by omega, hd]
            rfl
          · rcases Nat.lt_or_ge j m with h | h
            · rw [show j = m - 1 by omega, hy] at hz; cases hz; exact hb
            · exact hhi j z h hz
        | false =>
          simp only [Bool.false_eq_true, if_false]
          refine .inr ⟨_, rfl, ?_⟩
          rw [hA, ← hL]
          exact hfin fun z _ hz => by rw [hy] at hz; cases hz; exact hb
      · rw [if_neg (by simp only [decide_eq_true_eq]; omega)]
        simp only [Bool.false_eq_true, if_false]
        exact .inr ⟨_, rfl, hfin fun z h => absurd h h0⟩)
  exact ht
theorem insSort_eq (l : List S39) (a b : Nat) (hab : a ≤ b) (hb : b ≤ l.length) (hl : l.length < 2 ^ 40) :
    slices_insertionSortCmpFunc_api_Event l (a : Int) (b : Int) = some (l.take a ++ sortL bef ((l.take b).drop a) ++ l.drop b) := by
  unfold slices_insertionSortCmpFunc_api_Event
  rw [w64 (by omega) (by omega)]
  rcases Nat.lt_or_ge a b with hlt | hge
  · have h1 : (l.take (a + 1)).drop a = [l[a]'(by omega)] := by
      rw [List.drop_take, show a + 1 - a = 1 by omega, List.drop_eq_getElem_cons (by omega)]
      rfl
    have := loop_at (b := fun s : List S39 × Int => slices_insertionSortCmpFunc_api_Event_l1 (a : Int) (b : Int) s.1 s.2) (fun k => (l.take a ++ sortL bef ((l.take k).drop a) ++ l.drop k, (k : Int))) (t := l.take a ++ sortL bef ((l.take b).drop a) ++ l.drop b) (b - (a + 1)) (a + 1) (fun k hk1 hk2 => by
      show slices_insertionSortCmpFunc_api_Event_l1 (a : Int) (b : Int) (l.take a ++ sortL bef ((l.take k).drop a) ++ l.drop k) (k : Int) = _
      have hkl : k < l.length := by omega
      have hal : (l.take a).length = a := by simp; omega
      have hsl : (sortL bef ((l.take k).drop a)).length = k - a := by rw [sortL_length]; simp; omega
      have hs := sink_eq (l.take a) (l.drop (k + 1)) (sortL bef ((l.take k).drop a)) (l[k]'hkl) (sortL_srt bef_swo _) (by
        simp only [List.length_append, List.length_cons, List.length_drop, hal, hsl]; omega)
      rw [hal, hsl, ← List.drop_eq_getElem_cons hkl, show a + (k - a) = k by omega] at hs
      unfold slices_insertionSortCmpFunc_api_Event_l1
      rw [if_pos (by simp only [decide_eq_true_eq]; omega), hs]
      simp only [Option.bind_some]
      unfold slices_insertionSortCmpFunc_api_Event_x2_2 slices_insertionSortCmpFunc_api_Event_b2
      rw [w64 (by omega) (by omega), ← sortL_append]
      have : (l.take (k + 1)).drop a = (l.take k).drop a ++ [l[k]'hkl] := by
        rw [List.take_add_one, List.getElem?_eq_getElem hkl, List.drop_append_of_le_length (by simp; omega)]
        rfl
      rw [this]
      rfl) (by
      show slices_insertionSortCmpFunc_api_Event_l1 (a : Int) (b : Int) (l.take a ++ sortL bef ((l.take (a + 1 + (b - (a + 1)))).drop a) ++ l.drop (a + 1 + (b - (a + 1)))) ((a + 1 + (b - (a + 1)) : Nat) : Int) = _
      rw [show a + 1 + (b - (a + 1)) = b by omega]
      unfold slices_insertionSortCmpFunc_api_Event_l1
      rw [if_neg (by simp)])
    have h2 : (l, (a : Int) + 1) = (l.take a ++ sortL bef ((l.take (a + 1)).drop a) ++ l.drop (a + 1), ((a + 1 : Nat) : Int)) := by
      rw [h1]
      have : l.take a ++ sortL bef [l[a]'(by omega)] ++ l.drop (a + 1) = l := by
        show l.take a ++ [l[a]'(by omega)] ++ l.drop (a + 1) = l
        rw [List.append_assoc, List.singleton_append, ← List.drop_eq_getElem_cons (by omega), List.take_append_drop]
      rw [this]; rfl
    rw [h2, this]
    rfl
  · obtain rfl : a = b := by omega
    have h0 : (l.take a).drop a = [] := List.drop_eq_nil_of_le (by simp; omega)
    rw [loop_end (t := l) (by
      show slices_insertionSortCmpFunc_api_Event_l1 (a : Int) (a : Int) l ((a : Int) + 1) = _
      unfold slices_insertionSortCmpFunc_api_Event_l1
      rw [if_neg (by simp only [decide_eq_true_eq]; omega)])]
    rw [h0]
    show some l = some (l.take a ++ [] ++ l.drop a)
    simp
theorem small_eq (l : List S39) (h : l.length < 20) : event_Sort l = some (sortL bef l) := by
  unfold event_Sort slices_Clone_api_Event_api_Event slices_SortStableFunc_api_Event_api_Event
  have hc : nilsplit l.isEmpty (some []) (chk (([] : List S39).length + l.length ≤ 140737488355328 / 48) (some l)) = some l := by
    rw [chk_pos (by simp; omega)]
    unfold nilsplit
    cases l <;> simp
  rw [hc]
  simp only [Option.bind_some]
  unfold slices_stableCmpFunc_api_Event
  rw [loop_end (t := (l, 0)) (by
    show slices_stableCmpFunc_api_Event_l3 (l.length : Int) l 0 20 = _
    unfold slices_stableCmpFunc_api_Event_l3
    rw [if_neg (by simp only [decide_eq_true_eq]; omega)])]
  simp only [Option.bind_some]
  unfold slices_stableCmpFunc_api_Event_x3_0 slices_stableCmpFunc_api_Event_b1
  have hi := insSort_eq l 0 l.length (Nat.zero_le _) (Nat.le_refl _) (by omega)
  rw [show ((0 : Nat) : Int) = 0 from rfl] at hi
  rw [hi]
  simp only [Option.bind_some, List.take_zero, List.drop_zero, List.nil_append, List.take_length, List.drop_length, List.append_nil]
  rw [loop_end (t := sortL bef l) (by
    show slices_stableCmpFunc_api_Event_l1 (l.length : Int) (sortL bef l) 20 = _
    unfold slices_stableCmpFunc_api_Event_l1
    rw [if_neg (by simp only [decide_eq_true_eq]; omega)])]
  rfl
theorem awake6_eq : law06_awake = some true := by
  unfold law06_awake
  rw [small_eq _ (by simp)]
  have hs : sortL bef [(⟨0, 0, 1, [98], 0⟩ : S39), ⟨0, 0, 2, [97], 0⟩, ⟨0, 0, 1, [97], 0⟩] = [⟨0, 0, 1, [97], 0⟩, ⟨0, 0, 2, [97], 0⟩, ⟨0, 0, 1, [98], 0⟩] := rfl
  rw [hs]
  rfl
end Go.Proofs.YthokgnonmcgkcaaDoor.P
namespace Go.Proofs.YthokgnonmcgkcaaDoor.P
open Go Go.RowKit Go.Proofs.YthokgnonmcgkcaaDoor.E Go.Proofs.YthokgnonmcgkcaaDoor.M
set_option linter.unusedVariables false
set_option linter.unusedSectionVars false
end Go.Proofs.YthokgnonmcgkcaaDoor.P
namespace Go.Proofs.YthokgnonmcgkcaaDoor.P
open Go Go.RowKit Go.Proofs.YthokgnonmcgkcaaDoor.E Go.Proofs.YthokgnonmcgkcaaDoor.M
set_option linter.unusedVariables false
set_option linter.unusedSectionVars false
section
variable {α : Type} {lt : α → α → Bool}
end
end Go.Proofs.YthokgnonmcgkcaaDoor.P
namespace Go.Proofs.YthokgnonmcgkcaaDoor.P
open Go Go.RowKit Go.Proofs.YthokgnonmcgkcaaDoor.E Go.Proofs.YthokgnonmcgkcaaDoor.M
set_option linter.unusedVariables false
set_option linter.unusedSectionVars false
end Go.Proofs.YthokgnonmcgkcaaDoor.P
namespace Go.Proofs.YthokgnonmcgkcaaDoor.P
open Go Go.RowKit Go.Proofs.YthokgnonmcgkcaaDoor.E Go.Proofs.YthokgnonmcgkcaaDoor.M
set_option linter.unusedVariables false
set_option linter.unusedSectionVars false
section
variable {α : Type} {lt : α → α → Bool}
theorem SWO.lt_of_le_of_lt (h : SWO lt) {a b c : α} (h1 : lt b a = false) (h2 : lt b c = true) : lt a c = true := by
  rcases h.neg b a c h2 with q | q
  · simp_all
  · exact q
end
end Go.Proofs.YthokgnonmcgkcaaDoor.P
namespace Go.Proofs.YthokgnonmcgkcaaDoor.P
open Go Go.RowKit Go.Proofs.YthokgnonmcgkcaaDoor.E Go.Proofs.YthokgnonmcgkcaaDoor.M
set_option linter.unusedVariables false
set_option linter.unusedSectionVars false
section
variable {α : Type} {lt : α → α → Bool}
inductive Blk (lt : α → α → Bool) (n : Nat) : List α → List α → Prop
  | last {O : List α} : O.length ≤ n → Blk lt n O (sortL lt O)
  | cons {O1 O2 L2 : List α} : O1.length = n → Blk lt n O2 L2 → Blk lt n (O1 ++ O2) (sortL lt O1 ++ L2)
theorem Blk.length {n : Nat} {O L : List α} (h : Blk lt n O L) : L.length = O.length := by
  induction h with
  | last _ => exact sortL_length _
  | cons _ _ ih => simp [sortL_length, ih]
theorem Blk.done {n : Nat} {O L : List α} (h : Blk lt n O L) (hn : O.length ≤ n) : L = sortL lt O := by
  cases h with
  | last _ => rfl
  | @cons O1 O2 L2 h1 h2 =>
    have hl := h2.length
    simp only [List.length_append] at hn
    have e2 := List.eq_nil_of_length_eq_zero (show O2.length = 0 by omega)
    subst e2
    have e3 := List.eq_nil_of_length_eq_zero hl
    rw [e3]
    simp
end
end Go.Proofs.YthokgnonmcgkcaaDoor.P
namespace Go.Proofs.YthokgnonmcgkcaaDoor.P
open Go Go.RowKit Go.Proofs.YthokgnonmcgkcaaDoor.E Go.Proofs.YthokgnonmcgkcaaDoor.M
set_option linter.unusedVariables false
set_option linter.unusedSectionVars false
section
variable {α : Type} {lt : α → α → Bool}
end
end Go.Proofs.YthokgnonmcgkcaaDoor.P
namespace Go.Proofs.YthokgnonmcgkcaaDoor.P
open Go Go.RowKit Go.Proofs.YthokgnonmcgkcaaDoor.E Go.Proofs.YthokgnonmcgkcaaDoor.M
set_option linter.unusedVariables false
set_option linter.unusedSectionVars false
section
variable {α : Type}
end
end Go.Proofs.YthokgnonmcgkcaaDoor.P
namespace Go.Proofs.YthokgnonmcgkcaaDoor.P
open Go Go.RowKit Go.Proofs.YthokgnonmcgkcaaDoor.E Go.Proofs.YthokgnonmcgkcaaDoor.M
set_option linter.unusedVariables false
set_option linter.unusedSectionVars false
end Go.Proofs.YthokgnonmcgkcaaDoor.P
namespace Go.Proofs.YthokgnonmcgkcaaDoor.P
open Go Go.RowKit Go.Proofs.YthokgnonmcgkcaaDoor.E Go.Proofs.YthokgnonmcgkcaaDoor.M
set_option linter.unusedVariables false
set_option linter.unusedSectionVars false
end Go.Proofs.YthokgnonmcgkcaaDoor.P
namespace Go.Proofs.YthokgnonmcgkcaaDoor.P
open Go Go.RowKit Go.Proofs.YthokgnonmcgkcaaDoor.E Go.Proofs.YthokgnonmcgkcaaDoor.M
set_option linter.unusedVariables false
set_option linter.unusedSectionVars false
section
end
end Go.Proofs.YthokgnonmcgkcaaDoor.P
namespace Go.Proofs.YthokgnonmcgkcaaDoor.P
open Go Go.RowKit Go.Proofs.YthokgnonmcgkcaaDoor.E Go.Proofs.YthokgnonmcgkcaaDoor.M
set_option linter.unusedVariables false
set_option linter.unusedSectionVars false
section
end
end Go.Proofs.YthokgnonmcgkcaaDoor.P
namespace Go.Proofs.YthokgnonmcgkcaaDoor.P
open Go Go.RowKit Go.Proofs.YthokgnonmcgkcaaDoor.E Go.Proofs.YthokgnonmcgkcaaDoor.M
set_option linter.unusedVariables false
set_option linter.unusedSectionVars false
end Go.Proofs.YthokgnonmcgkcaaDoor.P
namespace Go.Proofs.YthokgnonmcgkcaaDoor.P
open Go Go.RowKit Go.Proofs.YthokgnonmcgkcaaDoor.E Go.Proofs.YthokgnonmcgkcaaDoor.M
set_option linter.unusedVariables false
set_option linter.unusedSectionVars false
end Go.Proofs.YthokgnonmcgkcaaDoor.P
namespace Go.Proofs.YthokgnonmcgkcaaDoor.P
open Go Go.RowKit Go.Proofs.YthokgnonmcgkcaaDoor.E Go.Proofs.YthokgnonmcgkcaaDoor.M
set_option linter.unusedVariables false
set_option linter.unusedSectionVars false
end Go.Proofs.YthokgnonmcgkcaaDoor.P
namespace Go.Proofs.YthokgnonmcgkcaaDoor.P
open Go Go.RowKit Go.Proofs.YthokgnonmcgkcaaDoor.E Go.Proofs.YthokgnonmcgkcaaDoor.M
set_option linter.unusedVariables false
set_option linter.unusedSectionVars false
section
end
section
end
end Go.Proofs.YthokgnonmcgkcaaDoor.P
namespace Go.Proofs.YthokgnonmcgkcaaDoor.P
open Go Go.RowKit Go.Proofs.YthokgnonmcgkcaaDoor.E Go.Proofs.YthokgnonmcgkcaaDoor.M
set_option linter.unusedVariables false
set_option linter.unusedSectionVars false
section
theorem stb_bts {l : List Int} (h : ∀ b ∈ l, 0 ≤ b ∧ b < 256) : stb (bts l) = l := by
  induction l with
  | nil => rfl
  | cons b l ih =>
    have hb := h b (List.mem_cons_self ..)
    show ((UInt8.ofNat b.toNat).toNat : Int) :: stb (bts l) = _
    rw [ih fun x hx => h x (List.mem_cons_of_mem _ hx)]
    congr 1
    rw [UInt8.toNat_ofNat']
    omega
end
end Go.Proofs.YthokgnonmcgkcaaDoor.P
namespace Go.Proofs.YthokgnonmcgkcaaDoor.P
open Go Go.RowKit Go.Proofs.YthokgnonmcgkcaaDoor.E Go.Proofs.YthokgnonmcgkcaaDoor.M
set_option linter.unusedVariables false
set_option linter.unusedSectionVars false
theorem u32_nat (a : Nat) : IntKind.u32.wrap (a : Int) = ((a % 4294967296 : Nat) : Int) := by
  rw [IntKind.wrap_u32]; omega
theorem iand_u32 {a b : Nat} (ha : a < 4294967296) (hb : b < 4294967296) : iand .u32 (a : Int) (b : Int) = ((a &&& b : Nat) : Int) := by
  unfold iand
  rw [ofInt_nat, ofInt_nat, u32_nat]
  have h : a &&& b < 4294967296 := Nat.lt_of_le_of_lt Nat.and_le_left ha
  simp only [BitVec.toNat_and, BitVec.toNat_ofNat, show IntKind.u32.bits = 32 from rfl]
  rw [Nat.mod_eq_of_lt (show a < 2 ^ 32 by omega), Nat.mod_eq_of_lt (show b < 2 ^ 32 by omega), Nat.mod_eq_of_lt h]
theorem ior_u32 {a b : Nat} (ha : a < 4294967296) (hb : b < 4294967296) : ior .u32 (a : Int) (b : Int) = ((a ||| b : Nat) : Int) := by
  unfold ior
  rw [ofInt_nat, ofInt_nat, u32_nat]
  have h : a ||| b < 2 ^ 32 := Nat.or_lt_two_pow (show a < 2 ^ 32 by omega) (show b < 2 ^ 32 by omega)
  simp only [BitVec.toNat_or, BitVec.toNat_ofNat, show IntKind.u32.bits = 32 from rfl]
  rw [Nat.mod_eq_of_lt (show a < 2 ^ 32 by omega), Nat.mod_eq_of_lt (show b < 2 ^ 32 by omega), Nat.mod_eq_of_lt (show a ||| b < 4294967296 from h)]
theorem ixor_u32 {a b : Nat} (ha : a < 4294967296) (hb : b < 4294967296) : ixor .u32 (a : Int) (b : Int) = ((a ^^^ b : Nat) : Int) := by
  unfold ixor
  rw [ofInt_nat, ofInt_nat, u32_nat]
  have h : a ^^^ b < 2 ^ 32 := Nat.xor_lt_two_pow (show a < 2 ^ 32 by omega) (show b < 2 ^ 32 by omega)
  simp only [BitVec.toNat_xor, BitVec.toNat_ofNat, show IntKind.u32.bits = 32 from rfl]
  rw [Nat.mod_eq_of_lt (show a < 2 ^ 32 by omega), Nat.mod_eq_of_lt (show b < 2 ^ 32 by omega), Nat.mod_eq_of_lt (show a ^^^ b < 4294967296 from h)]
theorem ishl_u32 (a n : Nat) (h : n ≤ 32) : ishl .u32 (a : Int) (n : Int) = ((a * 2 ^ n % 4294967296 : Nat) : Int) := by
  unfold ishl
  rw [Int.toNat_natCast, show min n IntKind.u32.bits = n from Nat.min_eq_left h, two_pow, ← Int.natCast_mul, u32_nat]
theorem xor_lt32 {a b : Nat} (ha : a < 4294967296) (hb : b < 4294967296) : a ^^^ b < 4294967296 := Nat.xor_lt_two_pow (n := 32) ha hb
def s1 (c : Nat) : Nat := if c % 2 = 1 then (c / 2) ^^^ 3988292384 else c / 2
theorem s1_lt {c : Nat} (h : c < 4294967296) : s1 c < 4294967296 := by
  unfold s1
  split
  · exact xor_lt32 (by omega) (by decide)
  · omega
theorem s1_xor (a b : Nat) : s1 (a ^^^ b) = s1 a ^^^ s1 b := by
  unfold s1
  have h := Nat.xor_mod_two_eq_one (a := a) (b := b)
  rw [Nat.xor_div_two]
  by_cases ha : a % 2 = 1 <;> by_cases hb : b % 2 = 1
  · rw [if_neg (by rw [h]; simp [ha, hb]), if_pos ha, if_pos hb]
    rw [show (a / 2 ^^^ 3988292384) ^^^ (b / 2 ^^^ 3988292384) = (a / 2 ^^^ b / 2) ^^^ (3988292384 ^^^ 3988292384) by
      rw [Nat.xor_assoc, ← Nat.xor_assoc 3988292384, Nat.xor_comm 3988292384 (b / 2), Nat.xor_assoc (b / 2), ← Nat.xor_assoc]]
    simp
  · rw [if_pos (by rw [h]; simp [ha, hb]), if_pos ha, if_neg hb, Nat.xor_assoc, Nat.xor_comm (b / 2), ← Nat.xor_assoc]
  · rw [if_pos (by rw [h]; simp [ha, hb]), if_neg ha, if_pos hb, Nat.xor_assoc]
  · rw [if_neg (by rw [h]; simp [ha, hb]), if_neg ha, if_neg hb]
theorem s1_even (a : Nat) : s1 (2 * a) = a := by unfold s1; rw [if_neg (by omega)]; omega
theorem s1_2 (a z : Nat) : s1 (2 * a ^^^ z) = a ^^^ s1 z := by rw [s1_xor, s1_even]
def st (x : Nat) : Nat → Nat → Nat
  | 0, c => c
  | k + 1, c => s1 (st x k c ^^^ (x / 2 ^ k % 2))
theorem st_lt (x : Nat) {c : Nat} (h : c < 4294967296) : ∀ k, st x k c < 4294967296
  | 0 => h
  | k + 1 => s1_lt (xor_lt32 (st_lt x h k) (by omega))
def tabN : List Nat := [0, 498536548, 997073096, 651767980, 1994146192, 1802195444, 1303535960, 1342533948, 3988292384, 4027552580, 3604390888, 3412177804, 2607071920, 2262029012, 2685067896, 3183342108]
theorem tab_eq : gl0 = tabN.map fun n : Nat => (n : Int) := by decide
def F4 (r m : Nat) : Nat := s1 (s1 (s1 (s1 (r ^^^ m / 1 % 2) ^^^ m / 2 % 2) ^^^ m / 4 % 2) ^^^ m / 8 % 2)
theorem F4_tab : ∀ r < 16, ∀ m < 16, tabN[r ^^^ m]? = some (F4 r m) := by decide +kernel
theorem split16 (c : Nat) : c = (16 * (c / 16)) ^^^ (c % 16) := by
  apply Nat.eq_of_testBit_eq
  intro i
  rw [Nat.testBit_xor, show 16 * (c / 16) = 2 ^ 4 * (c / 2 ^ 4) from rfl, show c % 16 = c % 2 ^ 4 from rfl, Nat.testBit_two_pow_mul, Nat.testBit_mod_two_pow, Nat.testBit_div_two_pow]
  by_cases h : i < 4
  · simp [h, Nat.not_le.2 h]
  · rw [show i - 4 + 4 = i by omega]; simp [h, Nat.le_of_not_lt h]
theorem nib (c m : Nat) : s1 (s1 (s1 (s1 (c ^^^ m / 1 % 2) ^^^ m / 2 % 2) ^^^ m / 4 % 2) ^^^ m / 8 % 2) = (c / 16) ^^^ F4 (c % 16) m := by
  have h := split16 c
  obtain ⟨q, hq⟩ : ∃ q, q = c / 16 := ⟨_, rfl⟩
  obtain ⟨r, hr⟩ : ∃ r, r = c % 16 := ⟨_, rfl⟩
  rw [← hq, ← hr] at h ⊢
  rw [h]
  unfold F4
  rw [Nat.xor_assoc, show 16 * q = 2 * (8 * q) by omega, s1_2, Nat.xor_assoc, show 8 * q = 2 * (4 * q) by omega, s1_2, Nat.xor_assoc, show 4 * q = 2 * (2 * q) by omega, s1_2, Nat.xor_assoc, s1_2]
theorem st8 (x c : Nat) (hx : x < 256) : st x 8 c = (((c / 16) ^^^ F4 (c % 16) (x % 16)) / 16) ^^^ F4 (((c / 16) ^^^ F4 (c % 16) (x % 16)) % 16) (x / 16) := by
  rw [← nib c (x % 16), ← nib _ (x / 16)]
  show s1 (s1 (s1 (s1 (s1 (s1 (s1 (s1 (c ^^^ x / 2 ^ 0 % 2) ^^^ x / 2 ^ 1 % 2) ^^^ x / 2 ^ 2 % 2) ^^^ x / 2 ^ 3 % 2) ^^^ x / 2 ^ 4 % 2) ^^^ x / 2 ^ 5 % 2) ^^^ x / 2 ^ 6 % 2) ^^^ x / 2 ^ 7 % 2) = _
  rw [show x / 2 ^ 0 % 2 = x % 16 / 1 % 2 by omega, show x / 2 ^ 1 % 2 = x % 16 / 2 % 2 by omega, show x / 2 ^ 2 % 2 = x % 16 / 4 % 2 by omega, show x / 2 ^ 3 % 2 = x % 16 / 8 % 2 by omega,
    show x / 2 ^ 4 % 2 = x / 16 / 1 % 2 by omega, show x / 2 ^ 5 % 2 = x / 16 / 2 % 2 by omega, show x / 2 ^ 6 % 2 = x / 16 / 4 % 2 by omega, show x / 2 ^ 7 % 2 = x / 16 / 8 % 2 by omega]
def crcF (c : Nat) (xs : List Int) : Nat := xs.foldl (fun c x => st x.toNat 8 c) c
theorem crcF_lt : ∀ (xs : List Int) {c : Nat}, c < 4294967296 → crcF c xs < 4294967296
  | [], _, h => h
  | x :: xs, c, h => crcF_lt xs (st_lt _ h 8)
theorem crcF_snoc (c : Nat) (xs : List Int) (x : Int) : crcF c (xs ++ [x]) = st x.toNat 8 (crcF c xs) := by simp [crcF]
theorem F4_at {r m : Nat} (hr : r < 16) (hm : m < 16) : at_ gl0 ((r ^^^ m : Nat) : Int) = some ((F4 r m : Nat) : Int) := by
  rw [at_nat, tab_eq, List.getElem?_map, F4_tab r hr m hm]; rfl
theorem xor16 (a b : Nat) : (a ^^^ b) &&& 15 = a % 16 ^^^ b % 16 := by
  rw [show 15 = 2 ^ 4 - 1 from rfl, Nat.and_two_pow_sub_one_eq_mod, Nat.xor_mod_two_pow]
theorem F4_lt {r m : Nat} (hr : r < 16) (hm : m < 16) : F4 r m < 4294967296 := by
  have := F4_tab r hr m hm
  have h : ∀ x ∈ tabN, x < 4294967296 := by decide
  exact h _ (List.mem_of_getElem? this)
theorem page_step {xs : List Int} (hB : Bs xs) (hl : xs.length < 2 ^ 60) {k : Nat} (hk : k < xs.length) {c : Nat} (hc : c < 4294967296) :
    page_Sum_l1 xs (c : Int) (k : Int) = some (.inl (((st (xs[k]'hk).toNat 8 c : Nat) : Int), ((k + 1 : Nat) : Int))) := by
  obtain ⟨x, hx⟩ : ∃ x, x = xs[k]'hk := ⟨_, rfl⟩
  have hxb := hB x (hx ▸ List.getElem_mem hk)
  obtain ⟨b, rfl⟩ := Int.eq_ofNat_of_zero_le hxb.1
  have hb : b < 256 := by omega
  have hg : xs[k]? = some (b : Int) := by rw [hx]; exact List.getElem?_eq_getElem hk
  rw [← hx, Int.toNat_natCast, st8 b c hb]
  unfold page_Sum_l1
  simp only [lt_]
  rw [if_pos (by simp; omega), at_int rfl hg]
  simp only [Option.bind_some]
  have e15 : (15 : Int) = ((15 : Nat) : Int) := rfl
  have e4 : (4 : Int) = ((4 : Nat) : Int) := rfl
  have hf : F4 (c % 16) (b % 16) < 4294967296 := F4_lt (by omega) (by omega)
  have hd : c / 16 ^^^ F4 (c % 16) (b % 16) < 4294967296 := xor_lt32 (by omega) hf
  obtain ⟨d, hdd⟩ : ∃ d, d = c / 16 ^^^ F4 (c % 16) (b % 16) := ⟨_, rfl⟩
  rw [← hdd] at hd ⊢
  rw [u32_nat, Nat.mod_eq_of_lt (by omega), ixor_u32 hc (by omega), e15, iand_u32 (xor_lt32 hc (by omega)) (by decide), xor16, F4_at (by omega) (by omega), e4]
  simp only [Option.bind_some]
  rw [ishr_nat _ _ (by decide), ishr_nat _ _ (by decide), show c / 2 ^ 4 = c / 16 from rfl, show b / 2 ^ 4 = b / 16 from rfl, ixor_u32 hf (by omega), Nat.xor_comm _ (c / 16), ← hdd, ixor_u32 hd (by omega),
    iand_u32 (xor_lt32 hd (by omega)) (by decide), xor16, show b / 16 % 16 = b / 16 by omega, F4_at (by omega) (by omega)]
  simp only [Option.bind_some]
  rw [ishr_nat _ _ (by decide), show d / 2 ^ 4 = d / 16 from rfl, ixor_u32 (F4_lt (by omega) (by omega)) (by omega), Nat.xor_comm _ (d / 16), w64 (by omega) (by omega)]
  rfl
theorem take_crc (c : Nat) {xs : List Int} {k : Nat} (hk : k < xs.length) : crcF c (xs.take (k + 1)) = st (xs[k]'hk).toNat 8 (crcF c (xs.take k)) := by
  rw [List.take_add_one, List.getElem?_eq_getElem hk]
  exact crcF_snoc _ _ _
def crc (xs : List Int) : Nat := crcF 4294967295 xs ^^^ 4294967295
theorem crc_lt (xs : List Int) : crc xs < 4294967296 := xor_lt32 (crcF_lt xs (by decide)) (by decide)
theorem page_Sum_eq {xs : List Int} (hB : Bs xs) (hl : xs.length < 2 ^ 60) : page_Sum xs = some ((crc xs : Nat) : Int) := by
  have h := loop_to (b := fun s : Int × Int => page_Sum_l1 xs s.1 s.2) (fun k => (((crcF 4294967295 (xs.take k) : Nat) : Int), (k : Int))) (t := ((crcF 4294967295 xs : Nat) : Int)) xs.length (fun k hk => by
    show page_Sum_l1 xs _ _ = _
    rw [page_step hB hl hk (crcF_lt _ (by decide)), take_crc _ hk]) (by
    show page_Sum_l1 xs ((crcF 4294967295 (xs.take xs.length) : Nat) : Int) (xs.length : Int) = _
    unfold page_Sum_l1
    rw [if_neg (by simp), List.take_length])
  unfold page_Sum
  rw [show ((4294967295, 0) : Int × Int) = (((crcF 4294967295 (xs.take 0) : Nat) : Int), ((0 : Nat) : Int)) from rfl, h]
  show some (ixor .u32 IntKind.u32.max _) = _
  rw [show IntKind.u32.max = ((4294967295 : Nat) : Int) by decide, ixor_u32 (by decide) (crcF_lt _ (by decide)), Nat.xor_comm]
  rfl
theorem bit_step {xs : List Int} {i : Nat} {b : Nat} (hg : xs[i]? = some (b : Int)) (hb : b < 256) {k : Nat} (hk : k < 8) {c : Nat} (hc : c < 4294967296) :
    r04_Sum_l2 xs (i : Int) (c : Int) (k : Int) = some (.inl (((s1 (c ^^^ (b / 2 ^ k % 2)) : Nat) : Int), ((k + 1 : Nat) : Int))) := by
  unfold r04_Sum_l2 r04_Sum_b3
  simp only [lt_]
  rw [if_pos (by simp; omega), at_int rfl hg]
  simp only [Option.bind_some]
  have hq : b / 2 ^ k < 256 := Nat.lt_of_le_of_lt (Nat.div_le_self _ _) hb
  have em : ∀ m : Nat, ((m : Int)).tmod 2 = ((m % 2 : Nat) : Int) := fun m => by rw [Int.tmod_eq_emod_of_nonneg (by omega)]; rfl
  have ed : ((c : Int)).tdiv 2 = ((c / 2 : Nat) : Int) := by rw [Int.tdiv_eq_ediv_of_nonneg (by omega)]; rfl
  rw [chk_pos (by omega), ishr_nat _ _ (show k ≤ IntKind.u8.bits from by show k ≤ 8; omega), u32_nat, Nat.mod_eq_of_lt (show b / 2 ^ k < 4294967296 by omega), ixor_u32 hc (by omega), em, ed, u32_nat, Nat.mod_eq_of_lt (show c / 2 < 4294967296 by omega), w64 (by omega) (by omega)]
  have hx2 : (c ^^^ (b / 2 ^ k % 2)) / 2 = c / 2 := by
    rw [Nat.xor_div_two, show b / 2 ^ k % 2 / 2 = 0 by omega]; simp
  have hm : (c ^^^ (b / 2 ^ k % 2)) % 2 = (c ^^^ b / 2 ^ k) % 2 := by
    have h1 := Nat.xor_mod_two_eq_one (a := c) (b := b / 2 ^ k)
    have h2 := Nat.xor_mod_two_eq_one (a := c) (b := b / 2 ^ k % 2)
    rw [Nat.mod_mod] at h2
    have h3 := h1.trans h2.symm
    omega
  unfold s1
  rw [hx2, hm]
  by_cases h : (c ^^^ b / 2 ^ k) % 2 = 1
  · rw [if_pos h, if_pos (by rw [h]; rfl), show (3988292384 : Int) = ((3988292384 : Nat) : Int) from rfl, ixor_u32 (by omega) (by decide)]; rfl
  · rw [if_neg h, if_neg (by simp only [beq_iff_eq]; omega)]; rfl
theorem r04_Sum_eq {xs : List Int} (hB : Bs xs) (hl : xs.length < 2 ^ 60) : r04_Sum xs = some ((crc xs : Nat) : Int) := by
  have h := loop_to (b := fun s : Int × Int => r04_Sum_l1 xs s.1 s.2) (fun k => (((crcF 4294967295 (xs.take k) : Nat) : Int), (k : Int))) (t := ((crcF 4294967295 xs : Nat) : Int)) xs.length (fun k hk => by
    show r04_Sum_l1 xs _ _ = _
    have hxb := hB _ (List.getElem_mem hk)
    obtain ⟨b, hb'⟩ := Int.eq_ofNat_of_zero_le hxb.1
    have hg : xs[k]? = some (b : Int) := by rw [← hb']; exact List.getElem?_eq_getElem hk
    have hb : b < 256 := by rw [hb'] at hxb; omega
    have hc := crcF_lt (xs.take k) (c := 4294967295) (by decide)
    rw [take_crc _ hk, hb', Int.toNat_natCast]
    obtain ⟨c, hcc⟩ : ∃ c, c = crcF 4294967295 (xs.take k) := ⟨_, rfl⟩
    rw [← hcc] at hc ⊢
    unfold r04_Sum_l1
    rw [if_pos (by simp; omega)]
    have hi := loop_to (b := fun s : Int × Int => r04_Sum_l2 xs (k : Int) s.1 s.2) (fun j => (((st b j c : Nat) : Int), (j : Int))) (t := ((st b 8 c : Nat) : Int)) 8 (fun j hj => by
      show r04_Sum_l2 xs _ _ _ = _
      rw [bit_step hg hb hj (st_lt b hc j)]; rfl) (by
      show r04_Sum_l2 xs _ ((st b 8 c : Nat) : Int) ((8 : Nat) : Int) = _
      unfold r04_Sum_l2
      rw [if_neg (by decide)])
    rw [show ((c : Int), (0 : Int)) = (((st b 0 c : Nat) : Int), ((0 : Nat) : Int)) from rfl, hi]
    show r04_Sum_b2 _ _ = _
    unfold r04_Sum_b2
    rw [lt_, w64 (by omega) (by omega)]
    rfl) (by
    show r04_Sum_l1 xs ((crcF 4294967295 (xs.take xs.length) : Nat) : Int) (xs.length : Int) = _
    unfold r04_Sum_l1
    rw [if_neg (by simp), List.take_length])
  unfold r04_Sum
  rw [show ((4294967295, 0) : Int × Int) = (((crcF 4294967295 (xs.take 0) : Nat) : Int), ((0 : Nat) : Int)) from rfl, h]
  show (ltt (ixor .u32 _ 4294967295) fun x => some x) = _
  rw [lt_, show (4294967295 : Int) = ((4294967295 : Nat) : Int) from rfl, ixor_u32 (crcF_lt _ (by decide)) (by decide)]
  rfl
end Go.Proofs.YthokgnonmcgkcaaDoor.P
namespace Go.Proofs.YthokgnonmcgkcaaDoor.P
open Go Go.RowKit Go.Proofs.YthokgnonmcgkcaaDoor.E Go.Proofs.YthokgnonmcgkcaaDoor.M
set_option linter.unusedVariables false
set_option linter.unusedSectionVars false
def numN (v : List Int) : Nat := (v.getD 0 0).toNat + 256 * (v.getD 1 0).toNat + 65536 * (v.getD 2 0).toNat + 16777216 * (v.getD 3 0).toNat
theorem four_of {v : List Int} (hB : Bs v) (h : 4 ≤ v.length) : ∃ a b c d : Nat, ∃ r, v = (a : Int) :: b :: c :: d :: r ∧ a < 256 ∧ b < 256 ∧ c < 256 ∧ d < 256 := by
  match v, h with
  | a :: b :: c :: d :: r, _ =>
    have ha := hB a (by simp); have hb := hB b (by simp); have hc := hB c (by simp); have hd := hB d (by simp)
    obtain ⟨a, rfl⟩ := Int.eq_ofNat_of_zero_le ha.1; obtain ⟨b, rfl⟩ := Int.eq_ofNat_of_zero_le hb.1
    obtain ⟨c, rfl⟩ := Int.eq_ofNat_of_zero_le hc.1; obtain ⟨d, rfl⟩ := Int.eq_ofNat_of_zero_le hd.1
    exact ⟨a, b, c, d, r, rfl, by omega, by omega, by omega, by omega⟩
theorem numN_mk (a b c d : Nat) (r : List Int) : numN ((a : Int) :: b :: c :: d :: r) = a + 256 * b + 65536 * c + 16777216 * d := by simp [numN]
theorem numN_lt {v : List Int} (hB : Bs v) (h : 4 ≤ v.length) : numN v < 4294967296 := by
  obtain ⟨a, b, c, d, r, rfl, h1, h2, h3, h4⟩ := four_of hB h
  rw [numN_mk]; omega
theorem at0 {α : Type} (a b c d : α) (r : List α) : at_ (a :: b :: c :: d :: r) 0 = some a ∧ at_ (a :: b :: c :: d :: r) 1 = some b ∧ at_ (a :: b :: c :: d :: r) 2 = some c ∧ at_ (a :: b :: c :: d :: r) 3 = some d :=
  ⟨at_int (n := 0) rfl rfl, at_int (n := 1) rfl rfl, at_int (n := 2) rfl rfl, at_int (n := 3) rfl rfl⟩
theorem page_number_eq {v : List Int} (hB : Bs v) (h : 4 ≤ v.length) : page_number v = some (numN v : Int) := by
  obtain ⟨a, b, c, d, r, rfl, h1, h2, h3, h4⟩ := four_of hB h
  obtain ⟨e0, e1, e2, e3⟩ := at0 (a : Int) (b : Int) (c : Int) (d : Int) r
  unfold page_number
  simp only [lt_, e0, e1, e2, e3, Option.bind_some]
  rw [show (8 : Int) = ((8 : Nat) : Int) from rfl, show (16 : Int) = ((16 : Nat) : Int) from rfl, show (24 : Int) = ((24 : Nat) : Int) from rfl]
  rw [u32_nat a, u32_nat b, u32_nat c, u32_nat d, Nat.mod_eq_of_lt (show a < 4294967296 by omega), Nat.mod_eq_of_lt (show b < 4294967296 by omega), Nat.mod_eq_of_lt (show c < 4294967296 by omega), Nat.mod_eq_of_lt (show d < 4294967296 by omega)]
  rw [ishl_u32 b 8 (by decide), ishl_u32 c 16 (by decide), ishl_u32 d 24 (by decide), Nat.mod_eq_of_lt (show b * 2 ^ 8 < 4294967296 by omega), Nat.mod_eq_of_lt (show c * 2 ^ 16 < 4294967296 by omega), Nat.mod_eq_of_lt (show d * 2 ^ 24 < 4294967296 by omega)]
  rw [ior_u32 (by omega) (by omega), or_top (show a < 2 ^ 8 by omega), ior_u32 (by omega) (by omega), or_top (show a + b * 2 ^ 8 < 2 ^ 16 by omega), ior_u32 (by omega) (by omega), or_top (show a + b * 2 ^ 8 + c * 2 ^ 16 < 2 ^ 24 by omega), numN_mk]
  congr 2
  omega
theorem r04_number_eq {v : List Int} (hB : Bs v) (h : 4 ≤ v.length) : loop (fun s : Int × Int => r04_Read_l1 v s.1 s.2) (0, 3) = some (numN v : Int) := by
  obtain ⟨a, b, c, d, r, rfl, h1, h2, h3, h4⟩ := four_of hB h
  obtain ⟨e0, e1, e2, e3⟩ := at0 (a : Int) (b : Int) (c : Int) (d : Int) r
  have st : ∀ (x y : Nat) (i : Int), 0 ≤ i → i ≤ 3 → x < 16777216 → y < 256 → at_ ((a : Int) :: b :: c :: d :: r) i = some (y : Int) → r04_Read_l1 ((a : Int) :: b :: c :: d :: r) (x : Int) i = some (.inl (((x * 256 + y : Nat) : Int), i - 1)) := by
    intro x y i hi hi3 hx hy he
    unfold r04_Read_l1
    simp only [lt_]
    rw [if_pos (by simpa using hi), he]
    simp only [Option.bind_some]
    rw [w64 (n := (x : Int) * 256) (by omega) (by omega), w64 (n := (y : Int)) (by omega) (by omega), w64 (n := (x : Int) * 256 + y) (by omega) (by omega), w64 (n := i - 1) (by omega) (by omega)]
    rfl
  have hl := loop_to (b := fun s : Int × Int => r04_Read_l1 ((a : Int) :: b :: c :: d :: r) s.1 s.2) (fun k => match k with | 0 => (((0 : Nat) : Int), 3) | 1 => (((d : Nat) : Int), 2) | 2 => (((d * 256 + c : Nat) : Int), 1) | 3 => ((((d * 256 + c) * 256 + b : Nat) : Int), 0) | _ => (((((d * 256 + c) * 256 + b) * 256 + a : Nat) : Int), -1))
    (t := ((((d * 256 + c) * 256 + b) * 256 + a : Nat) : Int)) 4 (fun k hk => by
      match k, hk with
      | 0, _ => have := st 0 d 3 (by omega) (by omega) (by omega) h4 e3; rw [Nat.zero_mul, Nat.zero_add] at this; exact this
      | 1, _ => exact st d c 2 (by omega) (by omega) (by omega) h3 e2
      | 2, _ => exact st _ b 1 (by omega) (by omega) (by omega) h2 e1
      | 3, _ => exact st _ a 0 (by omega) (by omega) (by omega) h1 e0) (by
      show r04_Read_l1 _ _ (-1) = _
      unfold r04_Read_l1
      rw [if_neg (by decide)]
      rfl)
  rw [numN_mk]
  refine hl.trans ?_
  congr 2
  omega
theorem four_eq {s : Nat} (hs : s < 4294967296) : r04_four (s : Int) = some [((s % 256 : Nat) : Int), ((s / 256 % 256 : Nat) : Int), ((s / 65536 % 256 : Nat) : Int), ((s / 16777216 % 256 : Nat) : Int)] := by
  unfold r04_four
  have ed : ∀ m : Nat, 0 < m → ((s : Int)).tdiv (m : Int) = ((s / m : Nat) : Int) := fun m hm => by rw [Int.tdiv_eq_ediv_of_nonneg (by omega)]; rfl
  have e1 := ed 256 (by decide); have e2 := ed 65536 (by decide); have e3 := ed 16777216 (by decide)
  simp only [lt_]
  rw [show (256 : Int) = ((256 : Nat) : Int) from rfl, show (65536 : Int) = ((65536 : Nat) : Int) from rfl, show (16777216 : Int) = ((16777216 : Nat) : Int) from rfl, e1, e2, e3]
  rw [u32_nat, u32_nat, u32_nat, u8_nat, u8_nat, u8_nat, u8_nat, Nat.mod_eq_of_lt (show s / 256 < 4294967296 by omega), Nat.mod_eq_of_lt (show s / 65536 < 4294967296 by omega), Nat.mod_eq_of_lt (show s / 16777216 < 4294967296 by omega)]
theorem bts_eq {xs ys : List Int} (hx : Bs xs) (hy : Bs ys) : (bts xs == bts ys) = (xs == ys) := by
  rw [Bool.eq_iff_iff]
  simp only [beq_iff_eq]
  exact ⟨fun h => by rw [← stb_bts hx, ← stb_bts hy, h], fun h => by rw [h]⟩
theorem four_test {s : Nat} (hs : s < 4294967296) {v : List Int} (hB : Bs v) (h : v.length = 4) :
    (bts [((s % 256 : Nat) : Int), ((s / 256 % 256 : Nat) : Int), ((s / 65536 % 256 : Nat) : Int), ((s / 16777216 % 256 : Nat) : Int)] == bts v) = decide (s = numN v) := by
  rw [bts_eq (fun x hx => by simp at hx; omega) hB]
  obtain ⟨a, b, c, d, r, rfl, h1, h2, h3, h4⟩ := four_of hB (by omega)
  cases r with
  | cons x r => simp at h
  | nil =>
    rw [numN_mk, Bool.eq_iff_iff]
    simp only [beq_iff_eq, decide_eq_true_eq, List.cons.injEq, and_true, Int.ofNat_inj]
    omega
theorem clone_bytes {l : List Int} (h : l.length ≤ 140737488355328) : slices_Clone_byte_byte l = some l := by
  unfold slices_Clone_byte_byte
  rw [chk_pos (by simp; omega)]
  unfold nilsplit
  cases l <;> simp
def pageR (b : List Int) (a : Int) : Int × List Int × Int × Int :=
  if a < 0 ∨ (b.length : Int) < a then (0, [], 0, 1) else
  if (b.drop a.toNat).length < 9 then (0, [], 0, 3) else
  if 1048576 < numN (b.drop a.toNat) ∨ (b.drop a.toNat).length - 9 < numN (b.drop a.toNat) then (0, [], 0, 3) else
  if crc ((b.drop a.toNat).take (5 + numN (b.drop a.toNat))) = numN ((b.drop a.toNat).drop (5 + numN (b.drop a.toNat))) then
    ((b.drop a.toNat).getD 4 0, ((b.drop a.toNat).take (5 + numN (b.drop a.toNat))).drop 5, a + numN (b.drop a.toNat) + 9, 0) else (0, [], 0, 4)
theorem numN_take (v : List Int) (k : Nat) (h : 4 ≤ k) : numN (v.take k) = numN v := by
  unfold numN
  simp only [List.getD_eq_getElem?_getD, List.getElem?_take_of_lt (show 0 < k by omega), List.getElem?_take_of_lt (show 1 < k by omega), List.getElem?_take_of_lt (show 2 < k by omega), List.getElem?_take_of_lt (show 3 < k by omega)]
theorem getD4 {v : List Int} (h : 5 ≤ v.length) : at_ v 4 = some (v.getD 4 0) := by
  refine at_int (n := 4) rfl ?_
  rw [List.getD_eq_getElem?_getD, List.getElem?_eq_getElem (by omega)]
  rfl
theorem cut_end {α : Type} {xs : List α} {l : Nat} (h : l ≤ xs.length) : cut_ xs (l : Int) (xs.length : Int) = some (xs.drop l) := by
  rw [cut_nat h (Nat.le_refl _), List.take_length]
theorem page_Read_eq {b : List Int} {a : Int} (hB : Bs b) (hl : b.length < 2 ^ 40) : page_Read b a = some (pageR b a) := by
  unfold page_Read pageR
  by_cases h0 : a < 0
  · rw [if_pos (by simpa using h0), if_pos (.inl h0)]; rfl
  rw [if_neg (by simpa using h0)]
  by_cases h1 : (b.length : Int) < a
  · rw [if_pos (.inr h1), show decide ((b.length : Int) < a) = true by simpa using h1]; rfl
  rw [if_neg (by omega), show decide ((b.length : Int) < a) = false by simpa using h1]
  obtain ⟨k, rfl⟩ := Int.eq_ofNat_of_zero_le (show 0 ≤ a by omega)
  have hv := hB.drop k
  have hvl : (b.drop k).length = b.length - k := by simp
  have hc := cut_end (xs := b) (l := k) (by omega)
  rw [Int.toNat_natCast]
  obtain ⟨v, hvd⟩ : ∃ v, v = b.drop k := ⟨_, rfl⟩
  rw [← hvd] at hv hvl hc ⊢
  unfold page_Read_j1
  rw [if_neg (by simp), hc]
  simp only [Option.bind_some]
  by_cases h9 : v.length < 9
  · rw [if_pos (by simp; omega), if_pos h9]
  rw [if_neg (by simp; omega), if_neg h9, page_number_eq hv (by omega)]
  simp only [Option.bind_some]
  have hn32 := numN_lt hv (by omega)
  have hcr := crc_lt (v.take (5 + numN v))
  obtain ⟨n, hn⟩ : ∃ n, n = numN v := ⟨_, rfl⟩
  rw [← hn] at hn32 hcr ⊢
  by_cases h2 : 1048576 < n
  · rw [if_pos (by simp; omega), if_pos (.inl h2)]; rfl
  rw [if_neg (by simp; omega), lt_, lt_, w64 (by omega) (by omega), w64 (by omega) (by omega)]
  by_cases h3 : v.length - 9 < n
  · rw [if_pos (.inr h3), show decide ((v.length : Int) - 9 < (n : Int)) = true by simp; omega]; rfl
  rw [if_neg (by omega), show decide ((v.length : Int) - 9 < (n : Int)) = false by simp; omega]
  unfold page_Read_j2
  rw [if_neg (by simp)]
  simp only [lt_]
  rw [w64 (n := (n : Int)) (by omega) (by omega), w64 (n := 5 + (n : Int)) (by omega) (by omega), show (5 : Int) + (n : Int) = ((5 + n : Nat) : Int) by omega,
    show cut_ v 0 ((5 + n : Nat) : Int) = some ((v.take (5 + n)).drop 0) from cut_nat (l := 0) (Nat.zero_le _) (by omega), List.drop_zero]
  simp only [Option.bind_some]
  rw [cut_end (by omega)]
  simp only [Option.bind_some]
  rw [page_Sum_eq (hv.take _) (by simp; omega)]
  simp only [Option.bind_some]
  rw [page_number_eq (hv.drop _) (by simp; omega)]
  simp only [Option.bind_some]
  by_cases h4 : crc (v.take (5 + n)) = numN (v.drop (5 + n))
  · rw [if_neg (by simp; omega), if_pos h4, getD4 (by omega)]
    simp only [Option.bind_some]
    rw [show cut_ v 5 ((5 + n : Nat) : Int) = some ((v.take (5 + n)).drop 5) from cut_nat (l := 5) (by omega) (by omega)]
    simp only [Option.bind_some]
    rw [clone_bytes (by simp; omega)]
    simp only [Option.bind_some]
    rw [w64 (n := (k : Int) + ((5 + n : Nat) : Int)) (by omega) (by omega), w64 (by omega) (by omega)]
    congr 4
    omega
  · rw [if_pos (by simp; omega), if_neg h4]
theorem r04_Read_eq {b : List Int} {a : Int} (hB : Bs b) (hl : b.length < 2 ^ 40) : r04_Read b a = some (pageR b a) := by
  unfold r04_Read pageR
  by_cases h0 : a < 0
  · rw [if_pos (by simpa using h0), if_pos (.inl h0)]; rfl
  rw [if_neg (by simpa using h0)]
  by_cases h1 : (b.length : Int) < a
  · rw [if_pos (.inr h1), show decide ((b.length : Int) < a) = true by simpa using h1]; rfl
  rw [if_neg (by omega), show decide ((b.length : Int) < a) = false by simpa using h1]
  obtain ⟨k, rfl⟩ := Int.eq_ofNat_of_zero_le (show 0 ≤ a by omega)
  have hv := hB.drop k
  have hvl : (b.drop k).length = b.length - k := by simp
  have hc := cut_end (xs := b) (l := k) (by omega)
  rw [Int.toNat_natCast]
  obtain ⟨v, hvd⟩ : ∃ v, v = b.drop k := ⟨_, rfl⟩
  rw [← hvd] at hv hvl hc ⊢
  unfold r04_Read_j1
  rw [if_neg (by simp), hc]
  simp only [Option.bind_some]
  by_cases h9 : v.length < 9
  · rw [if_pos (by simp; omega), if_pos h9]
  rw [if_neg (by simp; omega), if_neg h9, r04_number_eq hv (by omega)]
  simp only [Option.bind_some]
  unfold r04_Read_x1_0 r04_Read_b1
  have hn32 := numN_lt hv (by omega)
  have hcr := crc_lt (v.take (5 + numN v))
  obtain ⟨n, hn⟩ : ∃ n, n = numN v := ⟨_, rfl⟩
  rw [← hn] at hn32 hcr ⊢
  by_cases h2 : 1048576 < n
  · rw [if_pos (by simp; omega), if_pos (.inl h2)]; rfl
  rw [if_neg (by simp; omega), lt_, w64 (by omega) (by omega)]
  by_cases h3 : v.length - 9 < n
  · rw [if_pos (.inr h3), show decide ((v.length : Int) - 9 < (n : Int)) = true by simp; omega]; rfl
  rw [if_neg (by omega), show decide ((v.length : Int) - 9 < (n : Int)) = false by simp; omega]
  unfold r04_Read_j2
  rw [if_neg (by simp)]
  simp only [lt_]
  rw [w64 (n := 5 + (n : Int)) (by omega) (by omega), w64 (n := 9 + (n : Int)) (by omega) (by omega), show (5 : Int) + (n : Int) = ((5 + n : Nat) : Int) by omega, show (9 : Int) + (n : Int) = ((9 + n : Nat) : Int) by omega,
    show cut_ v 0 ((5 + n : Nat) : Int) = some ((v.take (5 + n)).drop 0) from cut_nat (l := 0) (Nat.zero_le _) (by omega), List.drop_zero]
  simp only [Option.bind_some]
  rw [cut_nat (by omega) (by omega)]
  simp only [Option.bind_some]
  have hd : (v.take (9 + n)).drop (5 + n) = (v.drop (5 + n)).take 4 := by rw [List.drop_take, show 9 + n - (5 + n) = 4 by omega]
  rw [r04_Sum_eq (hv.take _) (by simp; omega), hd]
  simp only [Option.bind_some]
  rw [four_eq hcr]
  simp only [Option.bind_some]
  rw [four_test hcr ((hv.drop _).take _) (by simp; omega), numN_take _ 4 (by omega)]
  by_cases h4 : crc (v.take (5 + n)) = numN (v.drop (5 + n))
  · rw [if_neg (by simp [h4]), if_pos h4, getD4 (by omega)]
    simp only [Option.bind_some]
    rw [show cut_ v 5 ((5 + n : Nat) : Int) = some ((v.take (5 + n)).drop 5) from cut_nat (l := 5) (by omega) (by omega)]
    simp only [Option.bind_some]
    rw [w64 (n := (k : Int) + 9) (by omega) (by omega), w64 (by omega) (by omega)]
    congr 4
    omega
  · rw [if_pos (by simp [h4]), if_neg h4]
theorem pageR_bs {b : List Int} {a : Int} (hB : Bs b) : Bs (pageR b a).2.1 ∧ (pageR b a).2.1.length ≤ 1048576 := by
  unfold pageR
  repeat' split
  all_goals first
    | exact ⟨Bs.nil, by simp⟩
    | exact ⟨((hB.drop _).take _).drop _, by simp; omega⟩
end Go.Proofs.YthokgnonmcgkcaaDoor.P
namespace Go.Proofs.YthokgnonmcgkcaaDoor.P
open Go Go.RowKit Go.Proofs.YthokgnonmcgkcaaDoor.E Go.Proofs.YthokgnonmcgkcaaDoor.M
set_option linter.unusedVariables false
set_option linter.unusedSectionVars false
def pTx : Nat → List Int → Option (List (List UInt8) × List Int)
  | 0, xs => some ([], xs)
  | n + 1, xs => match pT 1048576 xs with
    | some (t, r) => match pTx n r with
      | some (ts, r') => some (t :: ts, r')
      | none => none
    | none => none
theorem pT_tlen {most : Int} {xs r : List Int} {t : List UInt8} (h : pT most xs = some (t, r)) : t.length ≤ xs.length := by
  unfold pT at h
  split at h
  · rename_i n r' he
    obtain ⟨_, p, hp, _⟩ := pU_some he
    split at h
    · cases h
      rw [hp]; simp [bts]; omega
    · cases h
  · cases h
theorem pTx_bs : ∀ (n : Nat) {xs : List Int} {ts : List (List UInt8)} {r : List Int}, Bs xs → pTx n xs = some (ts, r) → Bs r ∧ r.length ≤ xs.length ∧ ts.length = n ∧ ∀ t ∈ ts, t.length ≤ xs.length
  | 0, xs, ts, r, hB, h => by cases h; exact ⟨hB, Nat.le_refl _, rfl, fun t ht => by cases ht⟩
  | n + 1, xs, ts, r, hB, h => by
    unfold pTx at h
    split at h
    · rename_i t r1 he
      obtain ⟨h1, h2⟩ := pT_bs hB he
      split at h
      · rename_i us r2 he2
        cases h
        obtain ⟨g1, g2, g3, g4⟩ := pTx_bs n h1 he2
        refine ⟨g1, by omega, by simp [g3], fun q hq => ?_⟩
        rcases List.mem_cons.1 hq with rfl | hq
        · exact pT_tlen he
        · have := g4 q hq; omega
      · cases h
    · cases h
theorem col_texts : ∀ (m k : Nat) (a : List (List Int)) (xs : List Int), Bs xs → xs.length < 1099511627776 → k + m = 5 → a.length = 5 →
    ∃ y, loop (fun s : List Int × List (List Int) × Int => event_Read_1_l1 s.1 s.2.1 s.2.2) (xs, a, (k : Int)) = some y ∧ match pTx m xs with
      | some (ts, r) => y = .inl (r, a.take k ++ ts.map stb)
      | none => ∃ s, y = .inr (.inr s)
  | 0, k, a, xs, hB, hl, hk, ha => by
    refine ⟨.inl (xs, a), loop_end ?_, ?_⟩
    · show event_Read_1_l1 xs a (k : Int) = _
      unfold event_Read_1_l1
      rw [if_neg (by simp only [decide_eq_true_eq]; omega)]
    · show _ = _
      rw [List.take_of_length_le (by omega)]; simp
  | m + 1, k, a, xs, hB, hl, hk, ha => by
    unfold pTx
    rcases (Text_is 1048576 hB (by omega)).cases with ⟨t, r, h1, h2⟩ | ⟨h1, s, h2⟩
    · rw [h1]
      obtain ⟨hBr, hlr⟩ := pT_bs hB h1
      have htl := pT_tlen h1
      obtain ⟨y, hy, hm⟩ := col_texts m (k + 1) (a.set k (stb t)) r hBr (by omega) (by omega) (by simpa using ha)
      have hx := List.getElem?_eq_getElem (l := a) (i := k) (by omega)
      refine ⟨y, (loop_nxt (s' := (r, a.set k (stb t), ((k + 1 : Nat) : Int))) ?_).trans hy, ?_⟩
      · show event_Read_1_l1 xs a (k : Int) = _
        unfold event_Read_1_l1
        rw [if_pos (by simp only [decide_eq_true_eq]; omega), h2]
        simp only [Option.bind_some, s_inl]
        rw [chk_pos (by simp only [maxLen]; omega), at_int rfl hx]
        simp only [Option.bind_some]
        rw [lt_, w64 (by omega) (by omega)]
        rfl
      · have e : (a.set k (stb t)).take (k + 1) = a.take k ++ [stb t] := by
          rw [List.take_add_one, List.getElem?_set_self (by omega), List.take_set_of_le (by omega)]; rfl
        dsimp only
        cases hq : pTx m r with
        | none => rw [hq] at hm; exact hm
        | some z =>
          rw [hq] at hm
          obtain ⟨ts, r'⟩ := z
          simp only at hm ⊢
          rw [hm, e]; simp
    · rw [h1]
      refine ⟨.inr (.inr (s, a)), loop_end ?_, _, rfl⟩
      show event_Read_1_l1 xs a (k : Int) = _
      unfold event_Read_1_l1
      rw [if_pos (by simp only [decide_eq_true_eq]; omega), h2]
      rfl
theorem ref_lost (B : List Int) : ∀ (m k : Nat) (l : List (List UInt8)), k + m = 5 → l.length = k →
    ∃ l', loop (fun s : List Int × Int × List (List UInt8) × Int => r06_Read_l2 s.1 s.2.1 s.2.2.1 s.2.2.2) (B, -1, l, (k : Int)) = some (B, -1, l')
  | 0, k, l, hk, hl => ⟨l, loop_end (by
      show r06_Read_l2 B (-1) l (k : Int) = _
      unfold r06_Read_l2
      rw [if_neg (by simp only [decide_eq_true_eq]; omega)])⟩
  | m + 1, k, l, hk, hl => by
    obtain ⟨l', h⟩ := ref_lost B m (k + 1) (l ++ [[]]) (by omega) (by simp [hl])
    refine ⟨l', (loop_nxt (s' := (B, -1, l ++ [[]], ((k + 1 : Nat) : Int))) ?_).trans h⟩
    show r06_Read_l2 B (-1) l (k : Int) = _
    unfold r06_Read_l2
    rw [if_pos (by simp only [decide_eq_true_eq]; omega), rText_no]
    simp only [Option.bind_some]
    rw [chk_pos (by simp; omega), lt_, w64 (by omega) (by omega)]
    rfl
theorem ref_texts {B : List Int} (hB : Bs B) (hBl : B.length < 1099511627776) : ∀ (m k : Nat) (l : List (List UInt8)) (q : Nat), k + m = 5 → l.length = k → q ≤ B.length →
    ∃ y, loop (fun s : List Int × Int × List (List UInt8) × Int => r06_Read_l2 s.1 s.2.1 s.2.2.1 s.2.2.2) (B, (q : Int), l, (k : Int)) = some y ∧ match pTx m (B.drop q) with
      | some (ts, r) => ∃ q' : Nat, y = (B, (q' : Int), l ++ ts) ∧ q' ≤ B.length ∧ B.drop q' = r
      | none => ∃ l', y = (B, -1, l')
  | 0, k, l, q, hk, hl, hq => by
    refine ⟨(B, (q : Int), l), loop_end ?_, q, by simp, hq, rfl⟩
    show r06_Read_l2 B (q : Int) l (k : Int) = _
    unfold r06_Read_l2
    rw [if_neg (by simp only [decide_eq_true_eq]; omega)]
  | m + 1, k, l, q, hk, hl, hq => by
    unfold pTx
    rcases (rText_is 1048576 hB hBl hq).cases with ⟨t, r, q', h1, h2, h3, h4⟩ | ⟨h1, s, h2⟩
    · rw [h1]
      obtain ⟨y, hy, hm⟩ := ref_texts hB hBl m (k + 1) (l ++ [t]) q' (by omega) (by simp [hl]) h3
      refine ⟨y, (loop_nxt (s' := (B, (q' : Int), l ++ [t], ((k + 1 : Nat) : Int))) ?_).trans hy, ?_⟩
      · show r06_Read_l2 B (q : Int) l (k : Int) = _
        unfold r06_Read_l2
        rw [if_pos (by simp only [decide_eq_true_eq]; omega), h2]
        simp only [Option.bind_some]
        rw [chk_pos (by simp; omega), lt_, w64 (by omega) (by omega)]
        rfl
      · rw [h4] at hm
        dsimp only
        cases hz : pTx m r with
        | none => rw [hz] at hm; exact hm
        | some z =>
          rw [hz] at hm
          obtain ⟨ts, r'⟩ := z
          simp only at hm ⊢
          obtain ⟨q2, e1, e2, e3⟩ := hm
          exact ⟨q2, by rw [e1]; simp, e2, e3⟩
    · rw [h1]
      obtain ⟨l', h⟩ := ref_lost B m (k + 1) (l ++ [s]) (by omega) (by simp [hl])
      refine ⟨(B, -1, l'), (loop_nxt (s' := (B, -1, l ++ [s], ((k + 1 : Nat) : Int))) ?_).trans h, l', rfl⟩
      show r06_Read_l2 B (q : Int) l (k : Int) = _
      unfold r06_Read_l2
      rw [if_pos (by simp only [decide_eq_true_eq]; omega), h2]
      simp only [Option.bind_some]
      rw [chk_pos (by simp; omega), lt_, w64 (by omega) (by omega)]
      rfl
def formB (x : S39) (k : Int) : Bool := decide (0 ≤ x.f1) && (decide (x.f1 < k) && (decide (-1099511627776 ≤ x.f2) && (decide (x.f2 ≤ 1099511627776) && (decide ((x.f3.length : Int) ≤ 32) && decide (x.f0 < 1099511627776)))))
theorem Form_is (x : S39) (k : Int) : event_Form x k = some (formB x k) := by
  unfold event_Form formB
  cases decide (0 ≤ x.f1) <;> cases decide (x.f1 < k) <;> cases decide (-1099511627776 ≤ x.f2) <;> cases decide (x.f2 ≤ 1099511627776) <;> cases decide ((x.f3.length : Int) ≤ 32) <;> rfl
def rowsL (k : Int) : List Int → List Int → List Int → List (List UInt8) → List Nat → Option (List S39)
  | a :: as_, b :: bs, c :: cs, d :: ds, e :: es =>
    if formB ⟨IntKind.u64.wrap a, b, c, d, e⟩ k = true then (rowsL k as_ bs cs ds es).map (⟨IntKind.u64.wrap a, b, c, d, e⟩ :: ·) else none
  | _, _, _, _, _ => some []
theorem rowsL_len (k : Int) : ∀ (as_ bs cs : List Int) (ds : List (List UInt8)) (es : List Nat) {l : List S39}, rowsL k as_ bs cs ds es = some l → l.length ≤ as_.length
  | a :: as_, b :: bs, c :: cs, d :: ds, e :: es, l, h => by
    unfold rowsL at h
    split at h
    · cases hr : rowsL k as_ bs cs ds es with
      | none => rw [hr] at h; cases h
      | some q => rw [hr] at h; cases h; have := rowsL_len k as_ bs cs ds es hr; simp; omega
    · cases h
  | [], _, _, _, _, l, h => by unfold rowsL at h; cases h; simp
  | _ :: _, [], _, _, _, l, h => by unfold rowsL at h; cases h; simp
  | _ :: _, _ :: _, [], _, _, l, h => by unfold rowsL at h; cases h; simp
  | _ :: _, _ :: _, _ :: _, [], _, l, h => by unfold rowsL at h; cases h; simp
  | _ :: _, _ :: _, _ :: _, _ :: _, [], l, h => by unfold rowsL at h; cases h; simp
theorem rows_loop (s : Int) (A B C : List Int) (D : List (List UInt8)) (F : List Nat) (i j k l m : Int) (hB : B.length = A.length) (hC : C.length = A.length) (hD : D.length = A.length) (hF : F.length = A.length) (hA : A.length ≤ 4096) :
    ∀ (n q : Nat) (pre : List S39), q + n = A.length → pre.length = q →
      loop (fun z : List S39 × Int => event_Read_l1 s (A, i) (B, j) (C, k) (D, l) (F, m) z.1 z.2) (pre, (q : Int)) = some (match rowsL s (A.drop q) (B.drop q) (C.drop q) (D.drop q) (F.drop q) with
        | some es => .inl (pre ++ es)
        | none => .inr ([], 0, 3))
  | 0, q, pre, hq, hp => by
    rw [List.drop_of_length_le (show A.length ≤ q by omega)]
    refine loop_end ?_
    show event_Read_l1 s (A, i) (B, j) (C, k) (D, l) (F, m) pre (q : Int) = _
    unfold event_Read_l1 rowsL
    rw [if_neg (by simp only [decide_eq_true_eq]; omega)]
    simp
  | n + 1, q, pre, hq, hp => by
    have gA := List.getElem?_eq_getElem (l := A) (i := q) (by omega)
    have gB := List.getElem?_eq_getElem (l := B) (i := q) (by omega)
    have gC := List.getElem?_eq_getElem (l := C) (i := q) (by omega)
    have gD := List.getElem?_eq_getElem (l := D) (i := q) (by omega)
    have gF := List.getElem?_eq_getElem (l := F) (i := q) (by omega)
    rw [List.drop_eq_getElem_cons (show q < A.length by omega), List.drop_eq_getElem_cons (show q < B.length by omega), List.drop_eq_getElem_cons (show q < C.length by omega), List.drop_eq_getElem_cons (show q < D.length by omega), List.drop_eq_getElem_cons (show q < F.length by omega)]
    generalize A[q] = a at *
    generalize B[q] = b at *
    generalize C[q] = c at *
    generalize D[q] = d at *
    generalize F[q] = e at *
    have hs : event_Read_l1 s (A, i) (B, j) (C, k) (D, l) (F, m) pre (q : Int) = if formB ⟨IntKind.u64.wrap a, b, c, d, e⟩ s = true then some (.inl (pre ++ [⟨IntKind.u64.wrap a, b, c, d, e⟩], ((q + 1 : Nat) : Int))) else some (.inr (.inr ([], 0, 3))) := by
      unfold event_Read_l1
      rw [if_pos (by simp only [decide_eq_true_eq]; omega), at_int rfl gA]
      simp only [Option.bind_some, lt_]
      rw [at_int rfl gB, at_int rfl gC, at_int rfl gD, at_int rfl gF]
      simp only [Option.bind_some, Form_is]
      rw [chk_pos (by simp; omega), w64 (by omega) (by omega)]
      cases formB ⟨IntKind.u64.wrap a, b, c, d, e⟩ s <;> rfl
    unfold rowsL
    by_cases hf : formB ⟨IntKind.u64.wrap a, b, c, d, e⟩ s = true
    · rw [if_pos hf] at hs ⊢
      rw [loop_nxt (s' := (pre ++ [⟨IntKind.u64.wrap a, b, c, d, e⟩], ((q + 1 : Nat) : Int))) hs, rows_loop s A B C D F i j k l m hB hC hD hF hA n (q + 1) (pre ++ [(⟨IntKind.u64.wrap a, b, c, d, e⟩ : S39)]) (by omega) (by simp [hp])]
      cases rowsL s (A.drop (q + 1)) (B.drop (q + 1)) (C.drop (q + 1)) (D.drop (q + 1)) (F.drop (q + 1)) <;> simp
    · rw [if_neg hf] at hs ⊢
      rw [loop_end (t := .inr ([], 0, 3)) hs]
theorem l1_same (s : Int) (A B C : List Int) (D : List (List UInt8)) (F : List Nat) (i j k l m : Int) (i' j' k' l' m' : Bool) :
    (fun z : List S39 × Int => r06_Read_l1 s (A, i') (B, j') (C, k') (D, l') (F, m') z.1 z.2) = (fun z : List S39 × Int => event_Read_l1 s (A, i) (B, j) (C, k) (D, l) (F, m) z.1 z.2) := rfl
theorem errno_contains (l : List Int) (b : Int) (h : l.length < 1099511627776) : slices_Contains_api_Errno_api_Errno l b = some (decide (b ∈ l)) := by
  unfold slices_Contains_api_Errno_api_Errno slices_Index_api_Errno_api_Errno
  have key : ∀ (m k : Nat), k + m = l.length → ∃ y, loop (fun s : Int => slices_Index_api_Errno_api_Errno_l1 l b s) (k : Int) = some y ∧ if b ∈ l.drop k then ∃ j : Nat, y = .inr (j : Int) else y = .inl () := by
    intro m
    induction m with
    | zero =>
      intro k hk
      refine ⟨.inl (), loop_end ?_, ?_⟩
      · unfold slices_Index_api_Errno_api_Errno_l1
        rw [if_neg (by simp only [decide_eq_true_eq]; omega)]
      · rw [List.drop_of_length_le (by omega), if_neg (by simp)]
    | succ m ih =>
      intro k hk
      have hkl : k < l.length := by omega
      have hx := List.getElem?_eq_getElem hkl
      have hd : l.drop k = l[k] :: l.drop (k + 1) := List.drop_eq_getElem_cons hkl
      rw [hd]
      by_cases hb : b = l[k]
      · refine ⟨.inr (k : Int), loop_end ?_, ?_⟩
        · unfold slices_Index_api_Errno_api_Errno_l1
          rw [if_pos (by simp only [decide_eq_true_eq]; omega), at_int rfl hx]
          simp only [Option.bind_some]
          rw [if_pos (by simpa using hb)]
        · rw [if_pos (by rw [hb]; exact List.mem_cons_self)]
          exact ⟨k, rfl⟩
      · obtain ⟨y, hy, hm⟩ := ih (k + 1) (by omega)
        refine ⟨y, (loop_nxt (s' := ((k + 1 : Nat) : Int)) ?_).trans hy, ?_⟩
        · unfold slices_Index_api_Errno_api_Errno_l1
          rw [if_pos (by simp only [decide_eq_true_eq]; omega), at_int rfl hx]
          simp only [Option.bind_some]
          rw [if_neg (by simpa using hb), lt_, w64 (by omega) (by omega)]
          rfl
        · have he : (b ∈ l[k] :: l.drop (k + 1)) = (b ∈ l.drop (k + 1)) := propext ⟨fun h => (List.mem_cons.1 h).resolve_left hb, fun h => List.mem_cons_of_mem _ h⟩
          simpa only [he] using hm
  obtain ⟨y, hy, hm⟩ := key l.length 0 (by omega)
  rw [show ((0 : Nat) : Int) = 0 from rfl] at hy
  rw [hy, List.drop_zero] at *
  by_cases hb : b ∈ l
  · rw [if_pos hb] at hm
    obtain ⟨j, rfl⟩ := hm
    simp only [Option.bind_some]
    rw [show decide (0 ≤ (j : Int)) = true by simp, show decide (b ∈ l) = true by simpa using hb]
  · rw [if_neg hb] at hm
    subst hm
    rw [show decide (b ∈ l) = false by simpa using hb]
    rfl
def evL (s : Int) (t0 t1 t2 t3 t4 : List UInt8) : Option (List S39) :=
  match readL (stb t0), readL (stb t1), readL (stb t2), readT (stb t3), readR (stb t4) with
  | some a, some b, some c, some d, some e => if b.length = a.length ∧ c.length = a.length ∧ d.length = a.length ∧ e.length = a.length then rowsL s a b c d e else none
  | _, _, _, _, _ => none
def evR (b : List Int) (a s : Int) : List S39 × Int × Int :=
  if (pageR b a).2.2.2 ≠ 0 then ([], 0, (pageR b a).2.2.2) else
  if (pageR b a).1 ≠ 101 then ([], 0, 3) else
  match pTx 5 (pageR b a).2.1 with
  | some ([t0, t1, t2, t3, t4], []) => match evL s t0 t1 t2 t3 t4 with
    | some l => (l, (pageR b a).2.2.1, 0)
    | none => ([], 0, 3)
  | _ => ([], 0, 3)
theorem Bs_stb (t : List UInt8) : Bs (stb t) := fun b hb => by
  unfold stb at hb
  obtain ⟨c, _, rfl⟩ := List.mem_map.1 hb
  have := c.toNat_lt
  omega
theorem stb_len (t : List UInt8) : (stb t).length = t.length := by simp [stb]
theorem event_cols (s : Int) (y : Int × List Int × Int × Int) (t0 t1 t2 t3 t4 : List UInt8) (h0 : t0.length < 1099511627776) (h1 : t1.length < 1099511627776) (h2 : t2.length < 1099511627776) (h3 : t3.length < 1099511627776) (h4 : t4.length < 1099511627776) :
    event_Read_j1 s y [stb t0, stb t1, stb t2, stb t3, stb t4] true = some (match evL s t0 t1 t2 t3 t4 with | some l => (l, y.2.2.1, 0) | none => ([], 0, 3)) := by
  unfold event_Read_j1 evL
  rw [if_neg (by simp)]
  rw [show at_ [stb t0, stb t1, stb t2, stb t3, stb t4] 0 = some (stb t0) from rfl, show at_ [stb t0, stb t1, stb t2, stb t3, stb t4] 1 = some (stb t1) from rfl, show at_ [stb t0, stb t1, stb t2, stb t3, stb t4] 2 = some (stb t2) from rfl, show at_ [stb t0, stb t1, stb t2, stb t3, stb t4] 3 = some (stb t3) from rfl, show at_ [stb t0, stb t1, stb t2, stb t3, stb t4] 4 = some (stb t4) from rfl]
  simp only [Option.bind_some]
  rw [ReadInts_col (Bs_stb t0) (by rw [stb_len]; omega)]
  simp only [Option.bind_some]
  rw [ReadInts_col (Bs_stb t1) (by rw [stb_len]; omega)]
  simp only [Option.bind_some]
  rw [ReadInts_col (Bs_stb t2) (by rw [stb_len]; omega)]
  simp only [Option.bind_some]
  rw [ReadTexts_col (Bs_stb t3) (by rw [stb_len]; omega)]
  simp only [Option.bind_some]
  rw [ReadReals_col (Bs_stb t4) (by rw [stb_len]; omega), show (readL (stb t4)).bind realsL = readR (stb t4) from rfl]
  simp only [Option.bind_some]
  rw [errno_contains _ _ (by simp)]
  simp only [Option.bind_some]
  cases ha : readL (stb t0) with
  | none => simp [event_Read_j2]
  | some A =>
  cases hb : readL (stb t1) with
  | none => simp [event_Read_j2]
  | some B =>
  cases hc : readL (stb t2) with
  | none => simp [event_Read_j2]
  | some C =>
  cases hd : readT (stb t3) with
  | none => simp [event_Read_j2]
  | some D =>
  cases he : readR (stb t4) with
  | none => simp [event_Read_j2]
  | some F =>
  have hAl := readL_len ha
  simp only
  rw [if_neg (by simp)]
  by_cases e1 : B.length = A.length
  · rw [if_neg (by simp [e1])]
    by_cases e2 : C.length = A.length
    · rw [if_neg (by simp [e2])]
      by_cases e3 : D.length = A.length
      · rw [if_neg (by simp [e3])]
        by_cases e4 : F.length = A.length
        · rw [if_pos ⟨e1, e2, e3, e4⟩, show ((F.length : Int) != (A.length : Int)) = false by simp [e4]]
          unfold event_Read_j2
          rw [if_neg (by simp), show ((0 : Int)) = ((0 : Nat) : Int) from rfl, rows_loop s A B C D F _ _ _ _ _ e1 e2 e3 e4 hAl A.length 0 [] (by omega) rfl]
          simp only [List.drop_zero, List.nil_append]
          cases rowsL s A B C D F <;> rfl
        · rw [if_neg (by simp [e4]), show ((F.length : Int) != (A.length : Int)) = true by simp; omega]
          rfl
      · rw [if_pos (by simp; omega), if_neg (by simp [e3])]; rfl
    · rw [if_pos (by simp; omega), if_neg (by simp [e2])]; rfl
  · rw [if_pos (by simp; omega), if_neg (by simp [e1])]; rfl
theorem ref_cols (s : Int) (y : Int × List Int × Int × Int) (t0 t1 t2 t3 t4 : List UInt8) (h0 : t0.length < 1099511627776) (h1 : t1.length < 1099511627776) (h2 : t2.length < 1099511627776) (h3 : t3.length < 1099511627776) (h4 : t4.length < 1099511627776) :
    r06_Read_j1 s y [t0, t1, t2, t3, t4] false = some (match evL s t0 t1 t2 t3 t4 with | some l => (l, y.2.2.1, 0) | none => ([], 0, 3)) := by
  unfold r06_Read_j1 evL
  rw [if_neg (by simp)]
  rw [show at_ [t0, t1, t2, t3, t4] 0 = some t0 from rfl, show at_ [t0, t1, t2, t3, t4] 1 = some t1 from rfl, show at_ [t0, t1, t2, t3, t4] 2 = some t2 from rfl, show at_ [t0, t1, t2, t3, t4] 3 = some t3 from rfl, show at_ [t0, t1, t2, t3, t4] 4 = some t4 from rfl]
  simp only [Option.bind_some]
  rw [chk_pos (by simp only [maxLen]; omega), ReadInts_ref (Bs_stb t0) (by rw [stb_len]; omega)]
  simp only [Option.bind_some]
  rw [chk_pos (by simp only [maxLen]; omega), ReadInts_ref (Bs_stb t1) (by rw [stb_len]; omega)]
  simp only [Option.bind_some]
  rw [chk_pos (by simp only [maxLen]; omega), ReadInts_ref (Bs_stb t2) (by rw [stb_len]; omega)]
  simp only [Option.bind_some]
  rw [chk_pos (by simp only [maxLen]; omega), ReadTexts_ref (Bs_stb t3) (by rw [stb_len]; omega)]
  simp only [Option.bind_some]
  rw [chk_pos (by simp only [maxLen]; omega), ReadReals_ref (Bs_stb t4) (by rw [stb_len]; omega)]
  simp only [Option.bind_some]
  cases ha : readL (stb t0) with
  | none => simp [r06_Read_j2]
  | some A =>
  cases hb : readL (stb t1) with
  | none => simp [r06_Read_j2]
  | some B =>
  cases hc : readL (stb t2) with
  | none => simp [r06_Read_j2]
  | some C =>
  cases hd : readT (stb t3) with
  | none => simp [r06_Read_j2]
  | some D =>
  cases he : readR (stb t4) with
  | none => simp [r06_Read_j2]
  | some F =>
  have hAl := readL_len ha
  simp only
  rw [if_neg (by simp), if_neg (by simp), if_neg (by simp), if_neg (by simp), if_neg (by simp)]
  by_cases e1 : B.length = A.length
  · rw [if_neg (by simp [e1])]
    by_cases e2 : C.length = A.length
    · rw [if_neg (by simp [e2])]
      by_cases e3 : D.length = A.length
      · rw [if_neg (by simp [e3])]
        by_cases e4 : F.length = A.length
        · rw [if_pos ⟨e1, e2, e3, e4⟩, show ((F.length : Int) != (A.length : Int)) = false by simp [e4]]
          unfold r06_Read_j2
          rw [if_neg (by simp), show ((0 : Int)) = ((0 : Nat) : Int) from rfl, l1_same s A B C D F 0 0 0 0 0, rows_loop s A B C D F _ _ _ _ _ e1 e2 e3 e4 hAl A.length 0 [] (by omega) rfl]
          simp only [List.drop_zero, List.nil_append]
          cases rowsL s A B C D F <;> rfl
        · rw [if_neg (by simp [e4]), show ((F.length : Int) != (A.length : Int)) = true by simp; omega]
          rfl
      · rw [if_pos (by simp; omega), if_neg (by simp [e3])]; rfl
    · rw [if_pos (by simp; omega), if_neg (by simp [e2])]; rfl
  · rw [if_pos (by simp; omega), if_neg (by simp [e1])]; rfl
theorem event_Read_eq {b : List Int} {a s : Int} (hB : Bs b) (hl : b.length < 2 ^ 40) : event_Read b a s = some (evR b a s) := by
  unfold event_Read evR
  rw [page_Read_eq hB hl]
  simp only [Option.bind_some]
  obtain ⟨hp, hpl⟩ := pageR_bs (a := a) hB
  generalize pageR b a = y at *
  obtain ⟨y0, y1, y2, y3⟩ := y
  simp only at hp hpl ⊢
  by_cases h3 : y3 = 0
  · rw [if_neg (show ¬ ((y3 != 0) = true) by simp [h3]), if_neg (show ¬ (y3 ≠ 0) by simp [h3])]
    by_cases h0 : y0 = 101
    · rw [if_pos (show (y0 == 101) = true by simp [h0]), if_neg (show ¬ (y0 ≠ 101) by simp [h0])]
      unfold Try_event_Read_1 event_Read_1
      obtain ⟨z, hz, hm⟩ := col_texts 5 0 [[], [], [], [], []] y1 hp (by omega) rfl rfl
      rw [show ((0 : Nat) : Int) = 0 from rfl] at hz
      simp only
      rw [hz]
      simp only [Option.bind_some]
      cases hq : pTx 5 y1 with
      | none =>
        rw [hq] at hm
        obtain ⟨e, rfl⟩ := hm
        rfl
      | some w =>
        obtain ⟨ts, r⟩ := w
        obtain ⟨g1, g2, g3, g4⟩ := pTx_bs 5 hp hq
        rw [hq] at hm
        simp only at hm
        subst hm
        match ts, g3, g4 with
        | [t0, t1, t2, t3, t4], _, g4 =>
          have hc := event_cols s (y0, y1, y2, y3) t0 t1 t2 t3 t4 (by have := g4 t0 (by simp); omega) (by have := g4 t1 (by simp); omega) (by have := g4 t2 (by simp); omega) (by have := g4 t3 (by simp); omega) (by have := g4 t4 (by simp); omega)
          cases r with
          | nil => exact hc
          | cons x r =>
            show event_Read_j1 s (y0, y1, y2, y3) [stb t0, stb t1, stb t2, stb t3, stb t4] ((((x :: r).length : Nat) : Int) == 0) = _
            rw [show ((((x :: r).length : Nat) : Int) == 0) = false by simp; omega]
            rfl
    · rw [if_neg (show ¬ ((y0 == 101) = true) by simp [h0]), if_pos (show y0 ≠ 101 by simp [h0])]
      rfl
  · rw [if_pos (show (y3 != 0) = true by simp [h3]), if_pos (show y3 ≠ 0 by simp [h3])]
theorem r06_Read_eq {b : List Int} {a s : Int} (hB : Bs b) (hl : b.length < 2 ^ 40) : r06_Read b a s = some (evR b a s) := by
  unfold r06_Read evR
  rw [r04_Read_eq hB hl]
  simp only [Option.bind_some]
  obtain ⟨hp, hpl⟩ := pageR_bs (a := a) hB
  generalize pageR b a = y at *
  obtain ⟨y0, y1, y2, y3⟩ := y
  simp only at hp hpl ⊢
  by_cases h3 : y3 = 0
  · rw [if_neg (show ¬ ((y3 != 0) = true) by simp [h3]), if_neg (show ¬ (y3 ≠ 0) by simp [h3])]
    obtain ⟨z, hz, hm⟩ := ref_texts hp (by omega) 5 0 [] 0 (by omega) rfl (by omega)
    rw [show ((0 : Nat) : Int) = 0 from rfl] at hz
    rw [hz]
    simp only [Option.bind_some]
    unfold r06_Read_x2_0 r06_Read_b1
    rw [List.drop_zero] at hm
    by_cases h0 : y0 = 101
    · rw [if_neg (show ¬ ((y0 != 101) = true) by simp [h0]), if_neg (show ¬ (y0 ≠ 101) by simp [h0])]
      cases hq : pTx 5 y1 with
      | none =>
        rw [hq] at hm
        obtain ⟨l', rfl⟩ := hm
        simp only
        rw [show ((-1 : Int) != (y1.length : Int)) = true by simp]
        rfl
      | some w =>
        obtain ⟨ts, r⟩ := w
        obtain ⟨g1, g2, g3, g4⟩ := pTx_bs 5 hp hq
        rw [hq] at hm
        simp only at hm
        obtain ⟨q', rfl, hq1, hq2⟩ := hm
        match ts, g3, g4 with
        | [t0, t1, t2, t3, t4], _, g4 =>
          have hc := ref_cols s (y0, y1, y2, y3) t0 t1 t2 t3 t4 (by have := g4 t0 (by simp); omega) (by have := g4 t1 (by simp); omega) (by have := g4 t2 (by simp); omega) (by have := g4 t3 (by simp); omega) (by have := g4 t4 (by simp); omega)
          have hlen : r.length = y1.length - q' := by rw [← hq2]; simp
          cases r with
          | nil =>
            have : q' = y1.length := by simp at hlen; omega
            simp only
            rw [show ((q' : Int) != (y1.length : Int)) = false by simp [this]]
            exact hc
          | cons x r =>
            simp only
            simp only [List.length_cons] at hlen
            rw [show ((q' : Int) != (y1.length : Int)) = true by simp; omega]
            rfl
    · rw [if_pos (show (y0 != 101) = true by simp [h0]), if_pos (show y0 ≠ 101 by simp [h0])]
      rfl
  · rw [if_pos (show (y3 != 0) = true by simp [h3]), if_pos (show y3 ≠ 0 by simp [h3])]
theorem evR_len (b : List Int) (a s : Int) : (evR b a s).1.length ≤ 4096 := by
  unfold evR
  split
  · simp
  split
  · simp
  split
  · split
    · rename_i l hl
      unfold evL at hl
      split at hl
      · rename_i A B C D F hA _ _ _ _
        split at hl
        · have := rowsL_len _ _ _ _ _ _ hl; have := readL_len hA; simp only; omega
        · cases hl
      · cases hl
    · simp
  · simp
theorem EventReads (a0 : List Int) (a1 a2 : Int) (h0 : gL 1 (gI .u8) a0) (_h1 : gI .i64 a1) (h2 : gI .u8 a2) : law06_EventReads a0 a1 a2 = some true := by
  have hB : Bs a0 := fun b hb => by
    have := h0.2 b hb
    unfold gI Lit.wf at this
    simp only [Bool.and_eq_true, decide_eq_true_eq] at this
    exact ⟨this.1, Int.lt_of_le_of_lt this.2 (by decide)⟩
  unfold law06_EventReads
  rw [awake6_eq]
  simp only [Option.bind_some]
  rw [if_neg (by simp)]
  unfold law06_EventReads_j1
  by_cases hl : 2000 < a0.length
  · rw [show decide (2000 < (a0.length : Int)) = true by simp; omega, if_pos rfl, awake6_eq]; rfl
  rw [show decide (2000 < (a0.length : Int)) = false by simp; omega, if_neg (by simp)]
  simp only [lt_]
  rw [event_Read_eq hB (by omega), r06_Read_eq hB (by omega)]
  simp only [Option.bind_some]
  rw [if_pos (by simp), if_pos (by simp), SameAll_self _ (by have := evR_len a0 a1 (IntKind.i64.wrap (1 + (IntKind.i64.wrap a2).tmod 8)); omega)]
  rfl
end Go.Proofs.YthokgnonmcgkcaaDoor.P
