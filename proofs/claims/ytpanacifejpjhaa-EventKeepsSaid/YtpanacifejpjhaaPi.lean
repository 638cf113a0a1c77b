/- The library's stable sort, in plain words. -/
import Derived.Test.YtpanacifejpjhaaPh
import Derived.Test.YtpanacifejpjhaaDi
namespace Go.Proofs.Ytpanacifejpjhaa.P
open Go Go.RowKit Go.Proofs.Ytpanacifejpjhaa.E Go.Proofs.Ytpanacifejpjhaa.M
set_option linter.unusedVariables false

theorem swap_two {α : Type} (A M B : List α) (x y : α) : ((A ++ x :: (M ++ y :: B)).set A.length y).set (A.length + 1 + M.length) x = A ++ y :: (M ++ x :: B) := by
  rw [List.set_append_right _ _ (Nat.le_refl _), Nat.sub_self, List.set_cons_zero, List.set_append_right _ _ (by omega), show A.length + 1 + M.length - A.length = M.length + 1 by omega, List.set_cons_succ, List.set_append_right _ _ (Nat.le_refl _), Nat.sub_self, List.set_cons_zero]

theorem swapRange_eq (A X B Y C : List S30) (h : X.length = Y.length) (hl : (A ++ X ++ B ++ Y ++ C).length < 2 ^ 40) :
    slices_swapRangeCmpFunc_api_Event (A ++ X ++ B ++ Y ++ C) (A.length : Int) ((A.length + X.length + B.length : Nat) : Int) (X.length : Int) = some (A ++ Y ++ B ++ X ++ C) := by
  unfold slices_swapRangeCmpFunc_api_Event
  have := loop_to (b := fun s : List S30 × Int => slices_swapRangeCmpFunc_api_Event_l1 (A.length : Int) ((A.length + X.length + B.length : Nat) : Int) (X.length : Int) s.1 s.2)
    (fun k => (A ++ (Y.take k ++ X.drop k) ++ B ++ (X.take k ++ Y.drop k) ++ C, (k : Int))) (t := A ++ Y ++ B ++ X ++ C) X.length (fun k hk => by
      show slices_swapRangeCmpFunc_api_Event_l1 _ _ _ (A ++ (Y.take k ++ X.drop k) ++ B ++ (X.take k ++ Y.drop k) ++ C) (k : Int) = _
      simp only [List.length_append] at hl
      obtain ⟨x, hx⟩ : ∃ x, X[k]? = some x := ⟨_, List.getElem?_eq_getElem hk⟩
      obtain ⟨y, hy⟩ : ∃ y, Y[k]? = some y := ⟨_, List.getElem?_eq_getElem (by omega)⟩
      have hxd : X.drop k = x :: X.drop (k + 1) := by rw [List.drop_eq_getElem_cons hk, (List.getElem?_eq_some_iff.1 hx).2]
      have hyd : Y.drop k = y :: Y.drop (k + 1) := by rw [List.drop_eq_getElem_cons (by omega), (List.getElem?_eq_some_iff.1 hy).2]
      have hxt : X.take (k + 1) = X.take k ++ [x] := by rw [List.take_add_one, hx]; rfl
      have hyt : Y.take (k + 1) = Y.take k ++ [y] := by rw [List.take_add_one, hy]; rfl
      obtain ⟨A', hA⟩ : ∃ A', A' = A ++ Y.take k := ⟨_, rfl⟩
      obtain ⟨M, hM⟩ : ∃ M, M = X.drop (k + 1) ++ B ++ X.take k := ⟨_, rfl⟩
      obtain ⟨C', hC⟩ : ∃ C', C' = Y.drop (k + 1) ++ C := ⟨_, rfl⟩
      have hL : A ++ (Y.take k ++ X.drop k) ++ B ++ (X.take k ++ Y.drop k) ++ C = A' ++ x :: (M ++ y :: C') := by rw [hxd, hyd, hA, hM, hC]; simp
      have hR : A ++ (Y.take (k + 1) ++ X.drop (k + 1)) ++ B ++ (X.take (k + 1) ++ Y.drop (k + 1)) ++ C = A' ++ y :: (M ++ x :: C') := by rw [hxt, hyt, hA, hM, hC]; simp
      have hAl : A'.length = A.length + k := by rw [hA]; simp; omega
      have hMl : A'.length + 1 + M.length = A.length + X.length + B.length + k := by rw [hAl, hM]; simp; omega
      have e1 : IntKind.i64.wrap (((A.length + X.length + B.length : Nat) : Int) + (k : Int)) = ((A'.length + 1 + M.length : Nat) : Int) := by rw [w64 (by omega) (by omega), hMl]; omega
      have e2 : IntKind.i64.wrap ((A.length : Int) + (k : Int)) = ((A'.length : Nat) : Int) := by rw [w64 (by omega) (by omega), hAl]; omega
      rw [hL, hR]
      have g1 : (A' ++ x :: (M ++ y :: C'))[A'.length + 1 + M.length]? = some y := by
        rw [List.getElem?_append_right (by omega), show A'.length + 1 + M.length - A'.length = M.length + 1 by omega, List.getElem?_cons_succ, List.getElem?_append_right (Nat.le_refl _), Nat.sub_self]; rfl
      have g2 : (A' ++ x :: (M ++ y :: C'))[A'.length]? = some x := by
        rw [List.getElem?_append_right (Nat.le_refl _), Nat.sub_self]; rfl
      have g3 : ((A' ++ x :: (M ++ y :: C')).set A'.length y)[A'.length + 1 + M.length]? = some y := by rw [List.getElem?_set_ne (by omega), g1]
      unfold slices_swapRangeCmpFunc_api_Event_l1
      rw [if_pos (by simp only [decide_eq_true_eq]; omega), e1, e2, at_int rfl g1, at_int rfl g2]
      simp only [Option.bind_some, Int.toNat_natCast]
      rw [at_int rfl g3, swap_two, w64 (by omega) (by omega)]
      rfl) (by
      show slices_swapRangeCmpFunc_api_Event_l1 _ _ _ (A ++ (Y.take X.length ++ X.drop X.length) ++ B ++ (X.take X.length ++ Y.drop X.length) ++ C) (X.length : Int) = _
      unfold slices_swapRangeCmpFunc_api_Event_l1
      rw [if_neg (by simp)]
      rw [List.take_length, List.drop_length, List.append_nil, h, List.take_length, List.drop_length, List.append_nil])
  simp only [List.take_zero, List.drop_zero, List.nil_append] at this
  rw [show (0 : Int) = ((0 : Nat) : Int) from rfl, this]
  rfl

theorem rotate_eq (A U V C : List S30) (hu : 0 < U.length) (hv : 0 < V.length) (hl : (A ++ U ++ V ++ C).length < 2 ^ 40) :
    slices_rotateCmpFunc_api_Event (A ++ U ++ V ++ C) (A.length : Int) ((A.length + U.length : Nat) : Int) ((A.length + U.length + V.length : Nat) : Int) = some (A ++ V ++ U ++ C) := by
  simp only [List.length_append] at hl
  unfold slices_rotateCmpFunc_api_Event
  rw [show IntKind.i64.wrap (((A.length + U.length : Nat) : Int) - (A.length : Int)) = (U.length : Int) by rw [w64 (by omega) (by omega)]; omega, show IntKind.i64.wrap (((A.length + U.length + V.length : Nat) : Int) - ((A.length + U.length : Nat) : Int)) = (V.length : Int) by rw [w64 (by omega) (by omega)]; omega]
  obtain ⟨m, hm⟩ : ∃ m, m = A.length + U.length := ⟨_, rfl⟩
  rw [← hm]
  obtain ⟨t, ht, A', P, Q, C', rfl, hPQ, hA', hlen, hfin⟩ := loop_good (b := fun s : List S30 × Int × Int => slices_rotateCmpFunc_api_Event_l1 (m : Int) s.1 s.2.1 s.2.2) (s := (A ++ U ++ V ++ C, (U.length : Int), (V.length : Int)))
    (fun s => ∃ A' P Q C' : List S30, s = (A' ++ P ++ Q ++ C', (P.length : Int), (Q.length : Int)) ∧ 0 < P.length ∧ 0 < Q.length ∧ A'.length + P.length = m ∧ A'.length + P.length + Q.length + C'.length < 2 ^ 40 ∧ A' ++ Q ++ P ++ C' = A ++ V ++ U ++ C)
    (fun s => (s.2.1 + s.2.2).toNat)
    (fun t => ∃ A' P Q C' : List S30, t = (A' ++ P ++ Q ++ C', (P.length : Int)) ∧ P.length = Q.length ∧ A'.length + P.length = m ∧ A'.length + P.length + Q.length + C'.length < 2 ^ 40 ∧ A' ++ Q ++ P ++ C' = A ++ V ++ U ++ C)
    ⟨A, U, V, C, rfl, hu, hv, hm.symm, by omega, rfl⟩ (by
      rintro s ⟨A', P, Q, C', rfl, hp, hq, hA', hlen, hfin⟩
      show (∃ s', slices_rotateCmpFunc_api_Event_l1 (m : Int) (A' ++ P ++ Q ++ C') (P.length : Int) (Q.length : Int) = some (.inl s') ∧ _) ∨ ∃ t, slices_rotateCmpFunc_api_Event_l1 (m : Int) (A' ++ P ++ Q ++ C') (P.length : Int) (Q.length : Int) = some (.inr t) ∧ _
      unfold slices_rotateCmpFunc_api_Event_l1
      have e1 : IntKind.i64.wrap ((m : Int) - (P.length : Int)) = (A'.length : Int) := by rw [w64 (by omega) (by omega)]; omega
      by_cases heq : P.length = Q.length
      · rw [if_neg (by simp [heq])]
        exact .inr ⟨_, rfl, A', P, Q, C', rfl, heq, hA', hlen, hfin⟩
      rw [if_pos (by simp; omega), e1]
      unfold slices_rotateCmpFunc_api_Event_b2
      by_cases hgt : Q.length < P.length
      · rw [if_pos (by simp only [decide_eq_true_eq]; omega)]
        have hP : P = P.take Q.length ++ P.drop Q.length := (List.take_append_drop _ _).symm
        obtain ⟨P1, h1⟩ : ∃ P1, P1 = P.take Q.length := ⟨_, rfl⟩
        obtain ⟨P2, h2⟩ : ∃ P2, P2 = P.drop Q.length := ⟨_, rfl⟩
        have l1 : P1.length = Q.length := by rw [h1]; simp; omega
        have l2 : P2.length = P.length - Q.length := by rw [h2]; simp
        rw [← h1, ← h2] at hP
        have hs := swapRange_eq A' P1 P2 Q C' l1 (by simp only [List.length_append]; omega)
        rw [show A' ++ P1 ++ P2 ++ Q ++ C' = A' ++ P ++ Q ++ C' by rw [hP]; simp, show A'.length + P1.length + P2.length = m by omega, l1] at hs
        rw [hs]
        simp only [Option.bind_some]
        rw [show IntKind.i64.wrap ((P.length : Int) - (Q.length : Int)) = (P2.length : Int) by rw [w64 (by omega) (by omega)]; omega]
        refine .inl ⟨_, rfl, ⟨A' ++ Q, P2, P1, C', by rw [l1], by omega, by omega, by simp; omega, by simp only [List.length_append]; omega, ?_⟩, by simp only; omega⟩
        rw [← hfin, hP]; simp
      · rw [if_neg (by simp only [decide_eq_true_eq]; omega)]
        have hQ : Q = Q.take (Q.length - P.length) ++ Q.drop (Q.length - P.length) := (List.take_append_drop _ _).symm
        obtain ⟨Q1, h1⟩ : ∃ Q1, Q1 = Q.take (Q.length - P.length) := ⟨_, rfl⟩
        obtain ⟨Q2, h2⟩ : ∃ Q2, Q2 = Q.drop (Q.length - P.length) := ⟨_, rfl⟩
        have l1 : Q1.length = Q.length - P.length := by rw [h1]; simp
        have l2 : Q2.length = P.length := by rw [h2]; simp; omega
        rw [← h1, ← h2] at hQ
        have hs := swapRange_eq A' P Q1 Q2 C' l2.symm (by simp only [List.length_append]; omega)
        rw [show A' ++ P ++ Q1 ++ Q2 ++ C' = A' ++ P ++ Q ++ C' by rw [hQ]; simp] at hs
        rw [show IntKind.i64.wrap (IntKind.i64.wrap ((m : Int) + (Q.length : Int)) - (P.length : Int)) = ((A'.length + P.length + Q1.length : Nat) : Int) by rw [w64 (n := (m : Int) + (Q.length : Int)) (by omega) (by omega), w64 (by omega) (by omega)]; omega, hs]
        simp only [Option.bind_some]
        rw [show IntKind.i64.wrap ((Q.length : Int) - (P.length : Int)) = (Q1.length : Int) by rw [w64 (by omega) (by omega)]; omega]
        refine .inl ⟨_, rfl, ⟨A', Q2, Q1, P ++ C', by rw [l2]; simp, by omega, by omega, by omega, by simp only [List.length_append]; omega, ?_⟩, by simp only; omega⟩
        rw [← hfin, hQ]; simp)
  rw [ht]
  simp only [Option.bind_some]
  unfold slices_rotateCmpFunc_api_Event_x1_0 slices_rotateCmpFunc_api_Event_b1
  have hs := swapRange_eq A' P [] Q C' hPQ (by simp only [List.length_append, List.length_nil]; omega)
  simp only [List.append_nil, List.length_nil, Nat.add_zero] at hs
  rw [show IntKind.i64.wrap ((m : Int) - (P.length : Int)) = (A'.length : Int) by rw [w64 (by omega) (by omega)]; omega, ← hA', hs]
  simp only [Option.bind_some]
  rw [hfin]
end Go.Proofs.Ytpanacifejpjhaa.P
