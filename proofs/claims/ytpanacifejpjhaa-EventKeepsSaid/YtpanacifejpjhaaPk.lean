/- The library's symMerge: its two easy cases. -/
import Derived.Test.YtpanacifejpjhaaPj
namespace Go.Proofs.Ytpanacifejpjhaa.P
open Go Go.RowKit Go.Proofs.Ytpanacifejpjhaa.E Go.Proofs.Ytpanacifejpjhaa.M
set_option linter.unusedVariables false

/-- one goes down behind some -/
theorem down_eq (A V C : List S30) (x : S30) (hl : (A ++ x :: V ++ C).length < 2 ^ 40) :
    loop (fun s : List S30 × Int => slices_symMergeCmpFunc_api_Event_l1 ((A.length + 1 + V.length : Nat) : Int) s.1 s.2) (A ++ x :: V ++ C, (A.length : Int)) = some (A ++ V ++ x :: C) := by
  have hA0 : A.length + 0 = A.length := rfl
  have := loop_to (b := fun s : List S30 × Int => slices_symMergeCmpFunc_api_Event_l1 ((A.length + 1 + V.length : Nat) : Int) s.1 s.2) (fun k => (A ++ V.take k ++ x :: (V.drop k ++ C), ((A.length + k : Nat) : Int))) (t := A ++ V ++ x :: C) V.length (fun k hk => by
    show slices_symMergeCmpFunc_api_Event_l1 _ (A ++ V.take k ++ x :: (V.drop k ++ C)) ((A.length + k : Nat) : Int) = _
    simp only [List.length_append, List.length_cons] at hl
    obtain ⟨y, hy⟩ : ∃ y, V[k]? = some y := ⟨_, List.getElem?_eq_getElem hk⟩
    have hyd : V.drop k = y :: V.drop (k + 1) := by rw [List.drop_eq_getElem_cons hk, (List.getElem?_eq_some_iff.1 hy).2]
    have hyt : V.take (k + 1) = V.take k ++ [y] := by rw [List.take_add_one, hy]; rfl
    obtain ⟨A', hA⟩ : ∃ A', A' = A ++ V.take k := ⟨_, rfl⟩
    have hAl : A'.length = A.length + k := by rw [hA]; simp; omega
    rw [hyd, ← hA, List.cons_append, hyt, ← List.append_assoc, ← hA]
    have g1 : (A' ++ x :: y :: (V.drop (k + 1) ++ C))[A'.length]? = some x := by rw [List.getElem?_append_right (Nat.le_refl _), Nat.sub_self]; rfl
    have g2 : (A' ++ x :: y :: (V.drop (k + 1) ++ C))[A'.length + 1]? = some y := by rw [List.getElem?_append_right (by omega), show A'.length + 1 - A'.length = 1 by omega]; rfl
    have g3 : ((A' ++ x :: y :: (V.drop (k + 1) ++ C)).set A'.length y)[A'.length + 1]? = some y := by rw [List.getElem?_set_ne (by omega), g2]
    unfold slices_symMergeCmpFunc_api_Event_l1
    have e1 : IntKind.i64.wrap (((A.length + 1 + V.length : Nat) : Int) - 1) = ((A.length + V.length : Nat) : Int) := by rw [w64 (by omega) (by omega)]; omega
    have e2 : IntKind.i64.wrap (((A.length + k : Nat) : Int) + 1) = ((A'.length + 1 : Nat) : Int) := by rw [w64 (by omega) (by omega)]; omega
    rw [e1, e2, ← hAl, if_pos (by simp only [decide_eq_true_eq]; omega), at_int rfl g2, at_int rfl g1]
    simp only [Option.bind_some, Int.toNat_natCast]
    rw [at_int rfl g3]
    simp only [Option.bind_some]
    have := swap_two A' [] (V.drop (k + 1) ++ C) x y
    simp only [List.nil_append, List.length_nil, Nat.add_zero] at this
    rw [this]
    simp [hAl]
    omega) (by
    show slices_symMergeCmpFunc_api_Event_l1 _ (A ++ V.take V.length ++ x :: (V.drop V.length ++ C)) ((A.length + V.length : Nat) : Int) = _
    simp only [List.length_append, List.length_cons] at hl
    unfold slices_symMergeCmpFunc_api_Event_l1
    rw [if_neg (by rw [w64 (by omega) (by omega)]; simp only [decide_eq_true_eq]; omega)]
    simp)
  simpa using this

/-- one goes up ahead of some -/
theorem up_eq' (A U C : List S30) (y : S30) (hl : (A ++ U ++ y :: C).length < 2 ^ 40) :
    loop (fun s : List S30 × Int => slices_symMergeCmpFunc_api_Event_l3 (A.length : Int) s.1 s.2) (A ++ U ++ y :: C, ((A.length + U.length : Nat) : Int)) = some (A ++ y :: U ++ C) := by
  have := loop_to (b := fun s : List S30 × Int => slices_symMergeCmpFunc_api_Event_l3 (A.length : Int) s.1 s.2) (fun k => (A ++ U.take (U.length - k) ++ y :: (U.drop (U.length - k) ++ C), ((A.length + (U.length - k) : Nat) : Int))) (t := A ++ y :: U ++ C) U.length (fun k hk => by
    show slices_symMergeCmpFunc_api_Event_l3 _ (A ++ U.take (U.length - k) ++ y :: (U.drop (U.length - k) ++ C)) ((A.length + (U.length - k) : Nat) : Int) = _
    simp only [List.length_append, List.length_cons] at hl
    obtain ⟨m, hm⟩ : ∃ m, U.length - k = m + 1 := ⟨U.length - k - 1, by omega⟩
    rw [show U.length - (k + 1) = m by omega, hm]
    have hml : m < U.length := by omega
    obtain ⟨x, hx⟩ : ∃ x, U[m]? = some x := ⟨_, List.getElem?_eq_getElem hml⟩
    have hxd : U.drop m = x :: U.drop (m + 1) := by rw [List.drop_eq_getElem_cons hml, (List.getElem?_eq_some_iff.1 hx).2]
    have hxt : U.take (m + 1) = U.take m ++ [x] := by rw [List.take_add_one, hx]; rfl
    obtain ⟨A', hA⟩ : ∃ A', A' = A ++ U.take m := ⟨_, rfl⟩
    have hAl : A'.length = A.length + m := by rw [hA]; simp; omega
    rw [hxd, ← hA, List.cons_append, hxt, ← List.append_assoc, ← hA, List.append_assoc, List.singleton_append]
    have g1 : (A' ++ x :: y :: (U.drop (m + 1) ++ C))[A'.length]? = some x := by rw [List.getElem?_append_right (Nat.le_refl _), Nat.sub_self]; rfl
    have g2 : (A' ++ x :: y :: (U.drop (m + 1) ++ C))[A'.length + 1]? = some y := by rw [List.getElem?_append_right (by omega), show A'.length + 1 - A'.length = 1 by omega]; rfl
    have g3 : ((A' ++ x :: y :: (U.drop (m + 1) ++ C)).set (A'.length + 1) x)[A'.length]? = some x := by rw [List.getElem?_set_ne (by omega), g1]
    unfold slices_symMergeCmpFunc_api_Event_l3
    have e1 : ((A.length + (m + 1) : Nat) : Int) = ((A'.length + 1 : Nat) : Int) := by omega
    have e2 : IntKind.i64.wrap (((A'.length + 1 : Nat) : Int) - 1) = ((A'.length : Nat) : Int) := by rw [w64 (by omega) (by omega)]; omega
    rw [e1, e2, ← hAl, if_pos (by simp only [decide_eq_true_eq]; omega), at_int rfl g1, at_int rfl g2]
    simp only [Option.bind_some, Int.toNat_natCast]
    rw [at_int rfl g3]
    simp only [Option.bind_some]
    rw [swap_list A' (U.drop (m + 1) ++ C) y x]) (by
    show slices_symMergeCmpFunc_api_Event_l3 _ (A ++ U.take (U.length - U.length) ++ y :: (U.drop (U.length - U.length) ++ C)) ((A.length + (U.length - U.length) : Nat) : Int) = _
    rw [Nat.sub_self]
    unfold slices_symMergeCmpFunc_api_Event_l3
    rw [if_neg (by simp)]
    simp)
  simpa using this

theorem cmp_some (x y : S30) : event_Sort_1 x y = some (if bef x y = true then -1 else if bef y x = true then 1 else 0) := by
  unfold event_Sort_1
  simp only [Less_eq, Option.bind_some]
  cases bef x y <;> cases bef y x <;> rfl
theorem cmp_neg (x y : S30) : (decide ((if bef x y = true then (-1 : Int) else if bef y x = true then 1 else 0) < 0)) = bef x y := by
  cases bef x y <;> cases bef y x <;> rfl
end Go.Proofs.Ytpanacifejpjhaa.P
