/- The library's symMerge merges two rows in their order, stably. -/
import Derived.Test.YtpanacifejpjhaaPk
namespace Go.Proofs.Ytpanacifejpjhaa.P
open Go Go.RowKit Go.Proofs.Ytpanacifejpjhaa.E Go.Proofs.Ytpanacifejpjhaa.M
set_option linter.unusedVariables false

section
variable {α : Type} {lt : α → α → Bool}
theorem srt_mem {P Q : List α} (h : Srt lt (P ++ Q)) : ∀ q ∈ Q, ∀ p ∈ P, lt q p = false := fun q hq p hp => (List.pairwise_append.1 h).2.2 p hp q hq
theorem srt_l {P Q : List α} (h : Srt lt (P ++ Q)) : Srt lt P := (List.pairwise_append.1 h).1
theorem srt_r {P Q : List α} (h : Srt lt (P ++ Q)) : Srt lt Q := (List.pairwise_append.1 h).2.1

/-- not behind the last one is not behind any: the chain of 'not ahead' -/
theorem SWO.ntrans (h : SWO lt) {a b c : α} (h1 : lt b a = false) (h2 : lt c b = false) : lt c a = false := by
  cases h3 : lt c a with
  | false => rfl
  | true => rcases h.neg c b a h3 with q | q <;> simp_all
theorem SWO.lt_of_lt_of_le (h : SWO lt) {a b c : α} (h1 : lt a b = true) (h2 : lt c b = false) : lt a c = true := by
  rcases h.neg a c b h1 with q | q
  · exact q
  · simp_all
theorem SWO.lt_of_le_of_lt (h : SWO lt) {a b c : α} (h1 : lt b a = false) (h2 : lt b c = true) : lt a c = true := by
  rcases h.neg b a c h2 with q | q
  · simp_all
  · exact q

/-- the last one of a row in its order -/
theorem srt_last (h : SWO lt) {V : List α} (hV : Srt lt V) {z : α} (hz : V[V.length - 1]? = some z) : ∀ v ∈ V, lt z v = false := by
  intro v hv
  obtain ⟨i, hi⟩ := List.getElem?_of_mem hv
  have hil := (List.getElem?_eq_some_iff.1 hi).1
  rcases Nat.lt_or_ge i (V.length - 1) with hlt | hge
  · exact srt_get hV hlt hi hz
  · rw [show i = V.length - 1 by omega, hz] at hi
    cases hi
    exact h.irr _
theorem srt_first (h : SWO lt) {V : List α} (hV : Srt lt V) {z : α} (hz : V[0]? = some z) : ∀ v ∈ V, lt v z = false := by
  intro v hv
  obtain ⟨i, hi⟩ := List.getElem?_of_mem hv
  rcases Nat.eq_zero_or_pos i with rfl | hp
  · rw [hz] at hi
    cases hi
    exact h.irr _
  · exact srt_get hV hp hz hi

/-- one ahead of a row, the others behind it -/
theorem sortL_one_left {x : α} {V W : List α} (hV : Srt lt (V ++ W)) (h1 : ∀ v ∈ V, lt v x = true) (h2 : ∀ w ∈ W, lt w x = false) : sortL lt (x :: (V ++ W)) = V ++ x :: W := by
  have := sortL_four (lt := lt) (X1 := []) (Y1 := [x]) (X2 := V) (Y2 := W) (by simp) (by simpa using h1) (fun y hy z hz => srt_mem hV y hy z (by simpa using hz))
  simp only [List.nil_append, List.singleton_append] at this
  rw [List.cons_append] at this
  rw [this, sortL_sorted (srt_l hV), sortL_sorted]
  exact List.pairwise_cons.2 ⟨fun w hw => h2 w hw, srt_r hV⟩
theorem sortL_one_right {y : α} {U V : List α} (hV : Srt lt (U ++ V)) (h1 : ∀ u ∈ U, lt y u = false) (h2 : ∀ v ∈ V, lt y v = true) : sortL lt (U ++ V ++ [y]) = U ++ y :: V := by
  rw [sortL_append, sortL_sorted hV, ins_right V h1]
  have := ins_left (lt := lt) (x := y) [] h2
  simp only [List.nil_append] at this
  rw [this]
  rfl
end

/-- what comes of a search: a row cut in two -/
theorem cut_two {α : Type} (V : List α) (n : Nat) (h : n ≤ V.length) : ∃ P Q, V = P ++ Q ∧ P.length = n := ⟨V.take n, V.drop n, (List.take_append_drop n V).symm, by simp; omega⟩

theorem get_at {α : Type} (A X B : List α) {i : Nat} (h1 : A.length ≤ i) (h2 : i < A.length + X.length) : (A ++ X ++ B)[i]? = X[i - A.length]? := by
  rw [List.append_assoc, List.getElem?_append_right h1, List.getElem?_append_left (by omega)]

theorem sym_one (rec_ : List S30 → Int → Int → Int → Option (List S30)) (A Y B : List S30) (x : S30) (hY : Srt bef Y) (hl : (A ++ x :: (Y ++ B)).length < 2 ^ 40) :
    slices_symMergeCmpFunc_api_Event_s rec_ (A ++ x :: (Y ++ B)) (A.length : Int) ((A.length + 1 : Nat) : Int) ((A.length + 1 + Y.length : Nat) : Int) = some (A ++ sortL bef (x :: Y) ++ B) := by
  simp only [List.length_append, List.length_cons] at hl
  unfold slices_symMergeCmpFunc_api_Event_s
  rw [if_pos (by rw [w64 (by omega) (by omega)]; simp; omega)]
  obtain ⟨t, ht, h1, h2, h3, h4⟩ := halves (b := fun s : Int × Int => slices_symMergeCmpFunc_api_Event_l2 (A ++ x :: (Y ++ B)) (A.length : Int) s.1 s.2) (fun h => match Y[h - (A.length + 1)]? with | some y => bef y x | none => false) (A.length + 1) (A.length + 1 + Y.length) (by omega) (fun i => by
    show slices_symMergeCmpFunc_api_Event_l2 _ _ _ _ = _
    unfold slices_symMergeCmpFunc_api_Event_l2
    rw [if_neg (by simp)]) (fun i j hi hij hj => by
    show slices_symMergeCmpFunc_api_Event_l2 _ _ _ _ = _
    unfold slices_symMergeCmpFunc_api_Event_l2 slices_symMergeCmpFunc_api_Event_b3
    have hc : (i + j) / 2 < j := by omega
    have hc' : i ≤ (i + j) / 2 := by omega
    obtain ⟨y, hy⟩ : ∃ y, Y[(i + j) / 2 - (A.length + 1)]? = some y := ⟨_, List.getElem?_eq_getElem (by omega)⟩
    have hg : (A ++ x :: (Y ++ B))[(i + j) / 2]? = some y := by
      have := get_at (A ++ [x]) Y B (i := (i + j) / 2) (by simp; omega) (by simp; omega)
      simp only [List.append_assoc, List.nil_append, List.cons_append, List.length_append, List.length_singleton] at this
      rw [this, hy]
    have hx : (A ++ x :: (Y ++ B))[A.length]? = some x := by rw [List.getElem?_append_right (Nat.le_refl _), Nat.sub_self]; rfl
    rw [if_pos (by simp only [decide_eq_true_eq]; omega), half_eq _ _ (by omega), at_int rfl hg, at_int rfl hx]
    simp only [Option.bind_some, cmp_some, cmp_neg, hy]
    have e := w64 (n := ((i : Int) + (j : Int)) / 2 + 1) (by omega) (by omega)
    cases bef y x <;> simp [e])
  rw [ht]
  simp only [Option.bind_some]
  unfold slices_symMergeCmpFunc_api_Event_x2_0 slices_symMergeCmpFunc_api_Event_b1
  obtain ⟨V, W, hVW, hVl⟩ := cut_two Y (t - (A.length + 1)) (by omega)
  have hd := down_eq A V (W ++ B) x (by rw [hVW] at hl; simp only [List.length_append, List.length_cons] at hl ⊢; omega)
  have e1 : A ++ x :: (Y ++ B) = A ++ x :: V ++ (W ++ B) := by rw [hVW]; simp
  rw [e1, show (t : Int) = ((A.length + 1 + V.length : Nat) : Int) by omega, hd]
  simp only [Option.bind_some]
  unfold slices_symMergeCmpFunc_api_Event_x1_2 slices_symMergeCmpFunc_api_Event_b2
  rw [hVW] at hY ⊢
  have hV : ∀ v ∈ V, bef v x = true := by
    rcases Nat.eq_zero_or_pos V.length with h0 | hp
    · intro v hv; rw [List.eq_nil_of_length_eq_zero h0] at hv; cases hv
    · have := h3 (by omega)
      obtain ⟨z, hz⟩ : ∃ z, V[V.length - 1]? = some z := ⟨_, List.getElem?_eq_getElem (by omega)⟩
      rw [hVW, List.getElem?_append_left (by omega), show t - 1 - (A.length + 1) = V.length - 1 by omega, hz] at this
      intro v hv
      exact bef_swo.lt_of_le_of_lt (srt_last bef_swo (srt_l hY) hz v hv) this
  have hW : ∀ w ∈ W, bef w x = false := by
    intro w hw
    have hWp : 0 < W.length := List.length_pos_of_mem hw
    have := h4 (by rw [hVW]; simp only [List.length_append]; omega)
    obtain ⟨z, hz⟩ : ∃ z, W[0]? = some z := ⟨_, List.getElem?_eq_getElem hWp⟩
    rw [hVW, List.getElem?_append_right (by omega), show t - (A.length + 1) - V.length = 0 by omega, hz] at this
    exact bef_swo.ntrans this (srt_first bef_swo (srt_r hY) hz w hw)
  rw [sortL_one_left hY hV hW]
  simp

theorem sym_last (rec_ : List S30 → Int → Int → Int → Option (List S30)) (A X B : List S30) (y : S30) (hX : Srt bef X) (h2 : 2 ≤ X.length) (hl : (A ++ X ++ y :: B).length < 2 ^ 40) :
    slices_symMergeCmpFunc_api_Event_s rec_ (A ++ X ++ y :: B) (A.length : Int) ((A.length + X.length : Nat) : Int) ((A.length + X.length + 1 : Nat) : Int) = some (A ++ sortL bef (X ++ [y]) ++ B) := by
  simp only [List.length_append, List.length_cons] at hl
  unfold slices_symMergeCmpFunc_api_Event_s
  rw [if_neg (by rw [w64 (by omega) (by omega)]; simp; omega), if_pos (by rw [w64 (by omega) (by omega)]; simp; omega)]
  obtain ⟨t, ht, h1, h2, h3, h4⟩ := halves (b := fun s : Int × Int => slices_symMergeCmpFunc_api_Event_l4 (A ++ X ++ y :: B) ((A.length + X.length : Nat) : Int) s.1 s.2) (fun h => match X[h - A.length]? with | some x => !bef y x | none => false) A.length (A.length + X.length) (by omega) (fun i => by
    show slices_symMergeCmpFunc_api_Event_l4 _ _ _ _ = _
    unfold slices_symMergeCmpFunc_api_Event_l4
    rw [if_neg (by simp)]) (fun i j hi hij hj => by
    show slices_symMergeCmpFunc_api_Event_l4 _ _ _ _ = _
    unfold slices_symMergeCmpFunc_api_Event_l4 slices_symMergeCmpFunc_api_Event_b6
    have hc : (i + j) / 2 < j := by omega
    have hc' : i ≤ (i + j) / 2 := by omega
    obtain ⟨x, hx⟩ : ∃ x, X[(i + j) / 2 - A.length]? = some x := ⟨_, List.getElem?_eq_getElem (by omega)⟩
    have hg : (A ++ X ++ y :: B)[(i + j) / 2]? = some x := by rw [get_at A X (y :: B) (by omega) (by omega), hx]
    have hy : (A ++ X ++ y :: B)[A.length + X.length]? = some y := by rw [List.getElem?_append_right (by simp), show A.length + X.length - (A ++ X).length = 0 by simp]; rfl
    rw [if_pos (by simp only [decide_eq_true_eq]; omega), half_eq _ _ (by omega), at_int rfl hg, at_int rfl hy]
    simp only [Option.bind_some, cmp_some, cmp_neg, hx]
    have e := w64 (n := ((i : Int) + (j : Int)) / 2 + 1) (by omega) (by omega)
    cases bef y x <;> simp [e])
  rw [ht]
  simp only [Option.bind_some]
  unfold slices_symMergeCmpFunc_api_Event_x4_4 slices_symMergeCmpFunc_api_Event_b4
  obtain ⟨U, V, hUV, hUl⟩ := cut_two X (t - A.length) (by omega)
  have hu := up_eq' (A ++ U) V B y (by rw [hUV] at hl; simp only [List.length_append, List.length_cons] at hl ⊢; omega)
  have hXl : X.length = U.length + V.length := by rw [hUV]; simp
  rw [show A ++ X ++ y :: B = A ++ U ++ V ++ y :: B by rw [hUV]; simp, show (t : Int) = ((A ++ U).length : Int) by simp only [List.length_append]; omega, show ((A.length + X.length : Nat) : Int) = (((A ++ U).length + V.length : Nat) : Int) by simp only [List.length_append]; omega, hu]
  simp only [Option.bind_some]
  unfold slices_symMergeCmpFunc_api_Event_x3_6 slices_symMergeCmpFunc_api_Event_b5
  rw [hUV] at hX ⊢
  have hU : ∀ u ∈ U, bef y u = false := by
    rcases Nat.eq_zero_or_pos U.length with h0 | hp
    · intro v hv; rw [List.eq_nil_of_length_eq_zero h0] at hv; cases hv
    · have := h3 (by omega)
      obtain ⟨z, hz⟩ : ∃ z, U[U.length - 1]? = some z := ⟨_, List.getElem?_eq_getElem (by omega)⟩
      rw [hUV, List.getElem?_append_left (by omega), show t - 1 - A.length = U.length - 1 by omega, hz] at this
      intro v hv
      exact bef_swo.ntrans (srt_last bef_swo (srt_l hX) hz v hv) (by simpa using this)
  have hV : ∀ v ∈ V, bef y v = true := by
    intro v hv
    have hVp : 0 < V.length := List.length_pos_of_mem hv
    have := h4 (by omega)
    obtain ⟨z, hz⟩ : ∃ z, V[0]? = some z := ⟨_, List.getElem?_eq_getElem hVp⟩
    rw [hUV, List.getElem?_append_right (by omega), show t - A.length - U.length = 0 by omega, hz] at this
    exact bef_swo.lt_of_lt_of_le (by simpa using this) (srt_first bef_swo (srt_r hX) hz v hv)
  rw [sortL_one_right hX hU hV]
  simp

/-- the rest, behind the search: both halves are merged -/
theorem sym_rest (k : Nat)
    (ih : ∀ A X Y B : List S30, Srt bef X → Srt bef Y → 0 < X.length → 0 < Y.length → X.length + Y.length ≤ 2 ^ k → (A ++ X ++ Y ++ B).length < 2 ^ 40 →
      slices_symMergeCmpFunc_api_Event_k k (A ++ X ++ Y ++ B) (A.length : Int) ((A.length + X.length : Nat) : Int) ((A.length + X.length + Y.length : Nat) : Int) = some (A ++ sortL bef (X ++ Y) ++ B))
    (A X1 Y1 X2 Y2 B : List S30) (hX : Srt bef (X1 ++ Y1)) (hY : Srt bef (X2 ++ Y2)) (hx : 0 < (X1 ++ Y1).length) (hy : 0 < (X2 ++ Y2).length) (hk : (X1 ++ Y1).length + (X2 ++ Y2).length ≤ 2 ^ (k + 1))
    (hl : (A ++ (X1 ++ Y1) ++ (X2 ++ Y2) ++ B).length < 2 ^ 40) (hmid : X1.length + X2.length = ((X1 ++ Y1).length + (X2 ++ Y2).length + A.length + A.length) / 2 - A.length)
    (h1 : ∀ x ∈ X2, ∀ y ∈ Y1, bef x y = true) (h2 : ∀ y ∈ Y2, ∀ x ∈ X1, bef y x = false) :
    slices_symMergeCmpFunc_api_Event_b7 (slices_symMergeCmpFunc_api_Event_k k) (A ++ (X1 ++ Y1) ++ (X2 ++ Y2) ++ B) (A.length : Int) ((A.length + (X1 ++ Y1).length : Nat) : Int) ((A.length + (X1 ++ Y1).length + (X2 ++ Y2).length : Nat) : Int) ((A.length + X1.length : Nat) : Int)
      = some (A ++ sortL bef (X1 ++ Y1 ++ (X2 ++ Y2)) ++ B) := by
  simp only [List.length_append] at hl hmid hk hx hy
  have hfin : sortL bef (X1 ++ Y1 ++ (X2 ++ Y2)) = sortL bef (X1 ++ X2) ++ sortL bef (Y1 ++ Y2) := by
    rw [← List.append_assoc]
    exact sortL_four (srt_mem hX) h1 fun y hy x hx => (List.mem_append.1 hx).elim (h2 y hy x) (srt_mem hY y hy x)
  unfold slices_symMergeCmpFunc_api_Event_b7
  have eh : IntKind.i64.wrap (ishr .u64 (IntKind.u64.wrap (IntKind.i64.wrap ((A.length : Int) + ((A.length + (X1 ++ Y1).length + (X2 ++ Y2).length : Nat) : Int)))) 1) = ((A.length + X1.length + X2.length : Nat) : Int) := by
    rw [half_eq _ _ (by simp only [List.length_append]; omega)]
    simp only [List.length_append]
    omega
  have ee : IntKind.i64.wrap (IntKind.i64.wrap (((A.length + X1.length + X2.length : Nat) : Int) + ((A.length + (X1 ++ Y1).length : Nat) : Int)) - ((A.length + X1.length : Nat) : Int)) = ((A.length + (X1 ++ Y1).length + X2.length : Nat) : Int) := by
    simp only [List.length_append]
    rw [w64 (n := ((A.length + X1.length + X2.length : Nat) : Int) + _) (by omega) (by omega), w64 (by omega) (by omega)]
    omega
  -- the second half
  have j4 : ∀ M : List S30, M.length = A.length + X1.length + X2.length → slices_symMergeCmpFunc_api_Event_j3 (slices_symMergeCmpFunc_api_Event_k k) (A.length : Int) ((A.length + (X1 ++ Y1).length : Nat) : Int) ((A.length + (X1 ++ Y1).length + (X2 ++ Y2).length : Nat) : Int) ((A.length + X1.length : Nat) : Int) (M ++ (Y1 ++ Y2) ++ B)
      = some (M ++ sortL bef (Y1 ++ Y2) ++ B) := by
    intro M hM
    unfold slices_symMergeCmpFunc_api_Event_j3
    rw [eh, ee]
    by_cases c1 : 0 < Y1.length
    · rw [if_pos (by simp only [decide_eq_true_eq, List.length_append]; omega)]
      unfold slices_symMergeCmpFunc_api_Event_j4
      rw [eh, ee]
      by_cases c2 : 0 < Y2.length
      · rw [if_pos (by simp only [decide_eq_true_eq, List.length_append]; omega)]
        have := ih M Y1 Y2 B (srt_r hX) (srt_r hY) c1 c2 (by omega) (by simp only [List.length_append]; omega)
        rw [show ((A.length + X1.length + X2.length : Nat) : Int) = (M.length : Int) by omega, show ((A.length + (X1 ++ Y1).length + X2.length : Nat) : Int) = ((M.length + Y1.length : Nat) : Int) by simp only [List.length_append]; omega,
          show ((A.length + (X1 ++ Y1).length + (X2 ++ Y2).length : Nat) : Int) = ((M.length + Y1.length + Y2.length : Nat) : Int) by simp only [List.length_append]; omega, ← List.append_assoc M, this]
        rfl
      · rw [if_neg (by simp only [decide_eq_true_eq, List.length_append]; omega)]
        have h0 := List.eq_nil_of_length_eq_zero (show Y2.length = 0 by omega)
        rw [h0, List.append_nil, sortL_sorted (srt_r hX)]
    · rw [if_neg (by simp only [decide_eq_true_eq, List.length_append]; omega)]
      unfold slices_symMergeCmpFunc_api_Event_j4
      rw [if_neg (by simp)]
      have h0 := List.eq_nil_of_length_eq_zero (show Y1.length = 0 by omega)
      rw [h0, List.nil_append, sortL_sorted (srt_r hY)]
  -- the first half
  have j2 : slices_symMergeCmpFunc_api_Event_j2 (slices_symMergeCmpFunc_api_Event_k k) (A.length : Int) ((A.length + (X1 ++ Y1).length : Nat) : Int) ((A.length + (X1 ++ Y1).length + (X2 ++ Y2).length : Nat) : Int) ((A.length + X1.length : Nat) : Int) (A ++ (X1 ++ X2) ++ (Y1 ++ Y2) ++ B)
      = some (A ++ sortL bef (X1 ++ X2) ++ sortL bef (Y1 ++ Y2) ++ B) := by
    unfold slices_symMergeCmpFunc_api_Event_j2
    rw [eh]
    have go : ∀ S : List S30, S = sortL bef (X1 ++ X2) → slices_symMergeCmpFunc_api_Event_j3 (slices_symMergeCmpFunc_api_Event_k k) (A.length : Int) ((A.length + (X1 ++ Y1).length : Nat) : Int) ((A.length + (X1 ++ Y1).length + (X2 ++ Y2).length : Nat) : Int) ((A.length + X1.length : Nat) : Int) (A ++ S ++ (Y1 ++ Y2) ++ B)
        = some (A ++ sortL bef (X1 ++ X2) ++ sortL bef (Y1 ++ Y2) ++ B) := by
      intro S hS
      rw [j4 (A ++ S) (by rw [hS]; simp only [List.length_append, sortL_length]; omega), hS]
    by_cases c1 : 0 < X1.length
    · rw [if_pos (by simp only [decide_eq_true_eq]; omega)]
      unfold slices_symMergeCmpFunc_api_Event_j5
      rw [eh]
      by_cases c2 : 0 < X2.length
      · rw [if_pos (by simp only [decide_eq_true_eq]; omega)]
        have := ih A X1 X2 ((Y1 ++ Y2) ++ B) (srt_l hX) (srt_l hY) c1 c2 (by omega) (by simp only [List.length_append]; omega)
        rw [show A ++ (X1 ++ X2) ++ (Y1 ++ Y2) ++ B = A ++ X1 ++ X2 ++ ((Y1 ++ Y2) ++ B) by simp, this]
        simp only [Option.bind_some]
        rw [← List.append_assoc (A ++ sortL bef (X1 ++ X2))]
        exact go _ rfl
      · rw [if_neg (by simp only [decide_eq_true_eq]; omega)]
        have h0 := List.eq_nil_of_length_eq_zero (show X2.length = 0 by omega)
        exact go _ (by rw [h0, List.append_nil, sortL_sorted (srt_l hX)])
    · rw [if_neg (by simp only [decide_eq_true_eq]; omega)]
      unfold slices_symMergeCmpFunc_api_Event_j5
      rw [if_neg (by simp)]
      have h0 := List.eq_nil_of_length_eq_zero (show X1.length = 0 by omega)
      exact go _ (by rw [h0, List.nil_append, sortL_sorted (srt_l hY)])
  rw [hfin]
  rw [eh, ee]
  have fin : ∀ S : List S30, S = A ++ (X1 ++ X2) ++ (Y1 ++ Y2) ++ B → slices_symMergeCmpFunc_api_Event_j2 (slices_symMergeCmpFunc_api_Event_k k) (A.length : Int) ((A.length + (X1 ++ Y1).length : Nat) : Int) ((A.length + (X1 ++ Y1).length + (X2 ++ Y2).length : Nat) : Int) ((A.length + X1.length : Nat) : Int) S
      = some (A ++ (sortL bef (X1 ++ X2) ++ sortL bef (Y1 ++ Y2)) ++ B) := by
    intro S hS
    rw [hS, j2]
    simp
  by_cases c1 : 0 < Y1.length
  · rw [if_pos (by simp only [decide_eq_true_eq, List.length_append]; omega)]
    unfold slices_symMergeCmpFunc_api_Event_j6
    rw [eh, ee]
    by_cases c2 : 0 < X2.length
    · rw [if_pos (by simp only [decide_eq_true_eq, List.length_append]; omega)]
      have := rotate_eq (A ++ X1) Y1 X2 (Y2 ++ B) c1 c2 (by simp only [List.length_append]; omega)
      rw [show A ++ (X1 ++ Y1) ++ (X2 ++ Y2) ++ B = A ++ X1 ++ Y1 ++ X2 ++ (Y2 ++ B) by simp, show ((A.length + X1.length : Nat) : Int) = ((A ++ X1).length : Int) by simp, show ((A.length + (X1 ++ Y1).length : Nat) : Int) = (((A ++ X1).length + Y1.length : Nat) : Int) by simp only [List.length_append]; omega,
        show ((A.length + (X1 ++ Y1).length + X2.length : Nat) : Int) = (((A ++ X1).length + Y1.length + X2.length : Nat) : Int) by simp only [List.length_append]; omega, this]
      simp only [Option.bind_some]
      rw [show ((A ++ X1).length : Int) = ((A.length + X1.length : Nat) : Int) by simp, show (((A ++ X1).length + Y1.length : Nat) : Int) = ((A.length + (X1 ++ Y1).length : Nat) : Int) by simp only [List.length_append]; omega]
      exact fin _ (by simp)
    · rw [if_neg (by simp only [decide_eq_true_eq, List.length_append]; omega)]
      have h0 := List.eq_nil_of_length_eq_zero (show X2.length = 0 by omega)
      exact fin _ (by rw [h0]; simp)
  · rw [if_neg (by simp only [decide_eq_true_eq, List.length_append]; omega)]
    unfold slices_symMergeCmpFunc_api_Event_j6
    rw [if_neg (by simp)]
    have h0 := List.eq_nil_of_length_eq_zero (show Y1.length = 0 by omega)
    exact fin _ (by rw [h0]; simp)

theorem symMerge_k : ∀ (k : Nat) (A X Y B : List S30), Srt bef X → Srt bef Y → 0 < X.length → 0 < Y.length → X.length + Y.length ≤ 2 ^ k → (A ++ X ++ Y ++ B).length < 2 ^ 40 →
      slices_symMergeCmpFunc_api_Event_k k (A ++ X ++ Y ++ B) (A.length : Int) ((A.length + X.length : Nat) : Int) ((A.length + X.length + Y.length : Nat) : Int) = some (A ++ sortL bef (X ++ Y) ++ B)
  | 0, A, X, Y, B, hX, hY, h0, h1, h2, hl => by simp at h2; omega
  | k + 1, A, X, Y, B, hX, hY, h0, h1, h2, hl => by
    show slices_symMergeCmpFunc_api_Event_s (slices_symMergeCmpFunc_api_Event_k k) _ _ _ _ = _
    match X, h0 with
    | [x], _ =>
      have := sym_one (slices_symMergeCmpFunc_api_Event_k k) A Y B x hY (by simpa using hl)
      simpa using this
    | x :: x' :: X', _ =>
    match Y, h1 with
    | [y], _ =>
      have := sym_last (slices_symMergeCmpFunc_api_Event_k k) A (x :: x' :: X') B y hX (by simp) (by simpa using hl)
      simpa using this
    | y :: y' :: Y', _ =>
      have g1 : 2 ≤ (x :: x' :: X').length := by simp
      have g2 : 2 ≤ (y :: y' :: Y').length := by simp
      generalize x :: x' :: X' = X at *
      generalize y :: y' :: Y' = Y at *
      simp only [List.length_append] at hl
      have eh : IntKind.i64.wrap (ishr .u64 (IntKind.u64.wrap (IntKind.i64.wrap ((A.length : Int) + ((A.length + X.length + Y.length : Nat) : Int)))) 1) = (((A.length + (A.length + X.length + Y.length)) / 2 : Nat) : Int) := half_eq _ _ (by omega)
      obtain ⟨m, hm⟩ : ∃ m, m = (A.length + (A.length + X.length + Y.length)) / 2 := ⟨_, rfl⟩
      rw [← hm] at eh
      have key : ∀ s0 r0 : Nat, A.length ≤ s0 → s0 ≤ r0 → r0 ≤ A.length + X.length → r0 ≤ m → (A.length < s0 → s0 = m + (A.length + X.length) - (A.length + X.length + Y.length)) → m + X.length ≤ s0 + X.length + Y.length → (r0 = A.length + X.length ∨ r0 = m) →
          slices_symMergeCmpFunc_api_Event_j1 (slices_symMergeCmpFunc_api_Event_k k) (A ++ X ++ Y ++ B) (A.length : Int) ((A.length + X.length : Nat) : Int) ((A.length + X.length + Y.length : Nat) : Int) (s0 : Int) (r0 : Int) = some (A ++ sortL bef (X ++ Y) ++ B) := by
        intro s0 r0 q1 q2 q3 q4 q5 q6 q7
        unfold slices_symMergeCmpFunc_api_Event_j1
        obtain ⟨t, ht, t1, t2, t3, t4⟩ := halves (b := fun s : Int × Int => slices_symMergeCmpFunc_api_Event_l5 (A ++ X ++ Y ++ B) (A.length : Int) ((A.length + X.length : Nat) : Int) ((A.length + X.length + Y.length : Nat) : Int) s.1 s.2)
          (fun c => match Y[m - 1 - c]?, X[c - A.length]? with | some y, some x => !bef y x | _, _ => false) s0 r0 q2 (fun i => by
            show slices_symMergeCmpFunc_api_Event_l5 _ _ _ _ _ _ = _
            unfold slices_symMergeCmpFunc_api_Event_l5
            rw [if_neg (by simp)]) (fun i j hi hij hj => by
            show slices_symMergeCmpFunc_api_Event_l5 _ _ _ _ _ _ = _
            unfold slices_symMergeCmpFunc_api_Event_l5 slices_symMergeCmpFunc_api_Event_b8
            have hc : (i + j) / 2 < j := by omega
            have hc' : i ≤ (i + j) / 2 := by omega
            obtain ⟨x, hx⟩ : ∃ x, X[(i + j) / 2 - A.length]? = some x := ⟨_, List.getElem?_eq_getElem (by omega)⟩
            obtain ⟨y, hy⟩ : ∃ y, Y[m - 1 - (i + j) / 2]? = some y := ⟨_, List.getElem?_eq_getElem (by omega)⟩
            have hg : (A ++ X ++ Y ++ B)[(i + j) / 2]? = some x := by rw [List.append_assoc (A ++ X), get_at A X (Y ++ B) (by omega) (by omega), hx]
            have hg2 : (A ++ X ++ Y ++ B)[m + (A.length + X.length) - 1 - (i + j) / 2]? = some y := by
              rw [get_at (A ++ X) Y B (by simp only [List.length_append]; omega) (by simp only [List.length_append]; omega)]
              simp only [List.length_append]
              rw [show m + (A.length + X.length) - 1 - (i + j) / 2 - (A.length + X.length) = m - 1 - (i + j) / 2 by omega, hy]
            have ei := half_eq i j (by omega)
            rw [if_pos (by simp only [decide_eq_true_eq]; omega), eh, ei, w64 (n := (m : Int) + _) (by omega) (by omega), w64 (n := (m : Int) + ((A.length + X.length : Nat) : Int) - 1) (by omega) (by omega), w64 (by omega) (by omega),
              at_int (n := m + (A.length + X.length) - 1 - (i + j) / 2) (by omega) hg2, at_int rfl hg]
            simp only [Option.bind_some, cmp_some, cmp_neg, hx, hy]
            have e := w64 (n := ((i : Int) + (j : Int)) / 2 + 1) (by omega) (by omega)
            cases bef y x <;> simp [e])
        rw [ht]
        simp only [Option.bind_some]
        unfold slices_symMergeCmpFunc_api_Event_x5_8
        obtain ⟨X1, Y1, hXX, hl1⟩ := cut_two X (t - A.length) (by omega)
        obtain ⟨X2, Y2, hYY, hl2⟩ := cut_two Y (m - t) (by omega)
        have hXl : X.length = X1.length + Y1.length := by rw [hXX]; simp
        have hYl : Y.length = X2.length + Y2.length := by rw [hYY]; simp
        subst hXX hYY
        rw [show (t : Int) = ((A.length + X1.length : Nat) : Int) by omega]
        refine sym_rest k (symMerge_k k) A X1 Y1 X2 Y2 B hX hY (by omega) (by omega) h2 (by simp only [List.length_append]; omega) (by omega) ?_ ?_
        · intro x hx y hy
          have p1 : 0 < X2.length := List.length_pos_of_mem hx
          have p2 : 0 < Y1.length := List.length_pos_of_mem hy
          have := t4 (by omega)
          obtain ⟨v, hv⟩ : ∃ v, X2[X2.length - 1]? = some v := ⟨_, List.getElem?_eq_getElem (by omega)⟩
          obtain ⟨u, hu⟩ : ∃ u, Y1[0]? = some u := ⟨_, List.getElem?_eq_getElem p2⟩
          rw [show m - 1 - t = X2.length - 1 by omega, List.getElem?_append_left (by omega), hv, show t - A.length = X1.length by omega, List.getElem?_append_right (Nat.le_refl _), Nat.sub_self, hu] at this
          have hvu : bef v u = true := by simpa using this
          exact bef_swo.lt_of_le_of_lt (srt_last bef_swo (srt_l hY) hv x hx) (bef_swo.lt_of_lt_of_le hvu (srt_first bef_swo (srt_r hX) hu y hy))
        · intro y hy x hx
          have p1 : 0 < Y2.length := List.length_pos_of_mem hy
          have p2 : 0 < X1.length := List.length_pos_of_mem hx
          have := t3 (by omega)
          obtain ⟨v, hv⟩ : ∃ v, Y2[0]? = some v := ⟨_, List.getElem?_eq_getElem p1⟩
          obtain ⟨u, hu⟩ : ∃ u, X1[X1.length - 1]? = some u := ⟨_, List.getElem?_eq_getElem (by omega)⟩
          rw [show m - 1 - (t - 1) = X2.length by omega, List.getElem?_append_right (Nat.le_refl _), Nat.sub_self, hv, show t - 1 - A.length = X1.length - 1 by omega, List.getElem?_append_left (by omega), hu] at this
          have hvu : bef v u = false := by simpa using this
          exact bef_swo.ntrans (srt_last bef_swo (srt_l hX) hu x hx) (bef_swo.ntrans hvu (srt_first bef_swo (srt_r hY) hv y hy))
      unfold slices_symMergeCmpFunc_api_Event_s
      rw [if_neg (by rw [w64 (by omega) (by omega)]; simp; omega), if_neg (by rw [w64 (by omega) (by omega)]; simp; omega), eh]
      by_cases c : m < A.length + X.length
      · rw [if_pos (by simp only [decide_eq_true_eq]; omega), w64 (n := (m : Int) + _) (by omega) (by omega), w64 (by omega) (by omega)]
        have := key (m + (A.length + X.length) - (A.length + X.length + Y.length)) m (by omega) (by omega) (by omega) (by omega) (by omega) (by omega) (.inr rfl)
        rw [show ((m + (A.length + X.length) - (A.length + X.length + Y.length) : Nat) : Int) = (m : Int) + ((A.length + X.length : Nat) : Int) - ((A.length + X.length + Y.length : Nat) : Int) by omega] at this
        exact this
      · rw [if_neg (by simp only [decide_eq_true_eq]; omega)]
        exact key A.length (A.length + X.length) (by omega) (by omega) (by omega) (by omega) (by omega) (by omega) (.inl rfl)
end Go.Proofs.Ytpanacifejpjhaa.P
