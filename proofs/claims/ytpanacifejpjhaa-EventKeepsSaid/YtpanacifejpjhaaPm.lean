/- The library's stable sort sorts, stably. -/
import Derived.Test.YtpanacifejpjhaaPl
namespace Go.Proofs.Ytpanacifejpjhaa.P
open Go Go.RowKit Go.Proofs.Ytpanacifejpjhaa.E Go.Proofs.Ytpanacifejpjhaa.M
set_option linter.unusedVariables false

section
variable {α : Type} {lt : α → α → Bool}
theorem ins_comm (h : SWO lt) {x q : α} (hx : lt x q = true) : ∀ s : List α, ins lt q (ins lt x s) = ins lt x (ins lt q s)
  | [] => by simp [ins, h.asymm hx, hx]
  | y :: s => by
    have hq := h.asymm hx
    simp only [ins]
    by_cases h1 : lt x y = true
    · rw [if_pos h1]
      simp only [ins, hq]
      by_cases h2 : lt q y = true
      · simp [ins, h2, hx]
      · simp [ins, h2, h1]
    · have h2 : ¬ lt q y = true := fun h2 => h1 (h.trans _ _ _ hx h2)
      rw [if_neg h1, if_neg h2]
      simp only [ins]
      rw [if_neg h2, if_neg h1, ins_comm h hx s]

theorem ins_split (h : SWO lt) (x : α) : ∀ {t : List α}, Srt lt t → ∃ P Q, t = P ++ Q ∧ ins lt x t = P ++ x :: Q ∧ ∀ q ∈ Q, lt x q = true
  | [], _ => ⟨[], [], rfl, rfl, by simp⟩
  | y :: t, ht => by
    have ht' := List.pairwise_cons.1 ht
    by_cases hy : lt x y = true
    · refine ⟨[], y :: t, rfl, by simp [ins, hy], fun q hq => ?_⟩
      rcases List.mem_cons.1 hq with rfl | hq
      · exact hy
      · exact h.lt_of_lt_of_le hy (ht'.1 q hq)
    · obtain ⟨P, Q, h1, h2, h3⟩ := ins_split h x ht'.2
      exact ⟨y :: P, Q, by rw [h1]; rfl, by simp [ins, hy, h2], h3⟩

theorem foldl_comm (h : SWO lt) (x : α) : ∀ (Q s : List α), (∀ q ∈ Q, lt x q = true) → Q.foldl (fun acc x => ins lt x acc) (ins lt x s) = ins lt x (Q.foldl (fun acc x => ins lt x acc) s)
  | [], s, _ => rfl
  | q :: Q, s, hq => by
    rw [List.foldl_cons, ins_comm h (hq q List.mem_cons_self), foldl_comm h x Q _ fun z hz => hq z (List.mem_cons_of_mem _ hz)]
    rfl

theorem foldl_ins (h : SWO lt) (x : α) {t : List α} (ht : Srt lt t) (s : List α) : (ins lt x t).foldl (fun acc x => ins lt x acc) s = ins lt x (t.foldl (fun acc x => ins lt x acc) s) := by
  obtain ⟨P, Q, h1, h2, h3⟩ := ins_split h x ht
  rw [h2, h1, List.foldl_append, List.foldl_cons, foldl_comm h x Q _ h3, List.foldl_append]

theorem foldl_sortL (h : SWO lt) (s : List α) : ∀ (k : Nat) (b : List α), b.length = k → (sortL lt b).foldl (fun acc x => ins lt x acc) s = b.foldl (fun acc x => ins lt x acc) s
  | 0, b, hb => by rw [List.eq_nil_of_length_eq_zero hb]; rfl
  | k + 1, b, hb => by
    obtain ⟨c, x, rfl⟩ : ∃ c x, b = c ++ [x] := ⟨b.dropLast, b.getLast (by intro e; rw [e] at hb; cases hb), (List.dropLast_concat_getLast _).symm⟩
    rw [sortL_append, foldl_ins h x (sortL_srt h c), foldl_sortL h s k c (by simpa using hb), List.foldl_append]
    rfl

theorem sortL_two (h : SWO lt) (a b : List α) : sortL lt (sortL lt a ++ sortL lt b) = sortL lt (a ++ b) := by
  have e : sortL lt (sortL lt a) = sortL lt a := sortL_sorted (sortL_srt h a)
  unfold sortL at e ⊢
  rw [List.foldl_append, e, List.foldl_append]
  exact foldl_sortL h _ _ b rfl

/-- blocks of a size, each in its order -/
inductive Blk (lt : α → α → Bool) (n : Nat) : List α → List α → Prop
  | last {O : List α} : O.length ≤ n → Blk lt n O (sortL lt O)
  | cons {O1 O2 L2 : List α} : O1.length = n → Blk lt n O2 L2 → Blk lt n (O1 ++ O2) (sortL lt O1 ++ L2)

theorem Blk.length {n : Nat} {O L : List α} (h : Blk lt n O L) : L.length = O.length := by
  induction h with
  | last _ => exact sortL_length _
  | cons _ _ ih => simp [sortL_length, ih]

theorem Blk.done {n : Nat} {O L : List α} (h : Blk lt n O L) (hn : O.length ≤ n) : L = sortL lt O := by
  cases h with
  | last _ => rfl
  | @cons O1 O2 L2 h1 h2 =>
    have hl := h2.length
    simp only [List.length_append] at hn
    have e2 := List.eq_nil_of_length_eq_zero (show O2.length = 0 by omega)
    subst e2
    have e3 := List.eq_nil_of_length_eq_zero hl
    rw [e3]
    simp
end

theorem stable_eq (O : List S30) (hO : O.length < 2 ^ 40) : slices_stableCmpFunc_api_Event O (O.length : Int) = some (sortL bef O) := by
  unfold slices_stableCmpFunc_api_Event
  -- the blocks
  obtain ⟨t, ht, P, R, hP, hR, hB⟩ := loop_good (b := fun s : List S30 × Int × Int => slices_stableCmpFunc_api_Event_l3 (O.length : Int) s.1 s.2.1 s.2.2) (s := (O, 0, 20))
    (fun s => ∃ P R : List S30, s = (P ++ R, (P.length : Int), ((P.length + 20 : Nat) : Int)) ∧ P.length + R.length = O.length ∧ ∀ L, Blk bef 20 R L → Blk bef 20 O (P ++ L))
    (fun s => ((O.length : Int) + 1 - s.2.1).toNat)
    (fun t => ∃ P R : List S30, t = (P ++ R, (P.length : Int)) ∧ (P.length + R.length = O.length ∧ R.length < 20) ∧ ∀ L, Blk bef 20 R L → Blk bef 20 O (P ++ L))
    ⟨[], O, rfl, by simp, fun L h => h⟩ (by
      rintro s ⟨P, R, rfl, hl, hB⟩
      show (∃ s', slices_stableCmpFunc_api_Event_l3 (O.length : Int) (P ++ R) (P.length : Int) ((P.length + 20 : Nat) : Int) = some (.inl s') ∧ _) ∨ ∃ t, slices_stableCmpFunc_api_Event_l3 (O.length : Int) (P ++ R) (P.length : Int) ((P.length + 20 : Nat) : Int) = some (.inr t) ∧ _
      unfold slices_stableCmpFunc_api_Event_l3
      by_cases hb : P.length + 20 ≤ O.length
      · rw [if_pos (by simp only [decide_eq_true_eq]; omega), insSort_eq _ P.length (P.length + 20) (by omega) (by simp; omega) (by simp; omega)]
        simp only [Option.bind_some]
        obtain ⟨R1, R2, rfl, hl1⟩ := cut_two R 20 (by omega)
        simp only [List.length_append] at hl
        have e1 : ((P ++ (R1 ++ R2)).take (P.length + 20)).drop P.length = R1 := by
          rw [List.take_append, List.take_of_length_le (by omega), List.drop_append, List.drop_of_length_le (Nat.le_refl _), Nat.sub_self, List.drop_zero, List.nil_append, show P.length + 20 - P.length = R1.length by omega, List.take_append_of_le_length (Nat.le_refl _), List.take_length]
        have e2 : (P ++ (R1 ++ R2)).drop (P.length + 20) = R2 := by
          rw [← List.append_assoc, List.drop_append_of_le_length (by simp; omega), List.drop_of_length_le (by simp; omega), List.nil_append]
        have e3 : (P ++ (R1 ++ R2)).take P.length = P := by simp
        rw [e1, e2, e3]
        refine .inl ⟨_, rfl, ⟨P ++ sortL bef R1, R2, ?_, by simp [sortL_length]; omega, fun L hL => by rw [List.append_assoc]; exact hB _ (.cons hl1 hL)⟩, by simp only; omega⟩
        rw [w64 (by omega) (by omega)]
        simp [sortL_length, hl1]
      · rw [if_neg (by simp only [decide_eq_true_eq]; omega)]
        exact .inr ⟨_, rfl, P, R, rfl, ⟨hl, by omega⟩, hB⟩)
  rw [ht, hP]
  obtain ⟨hl, hR⟩ := hR
  simp only [Option.bind_some]
  unfold slices_stableCmpFunc_api_Event_x3_0 slices_stableCmpFunc_api_Event_b1
  rw [insSort_eq _ P.length O.length (by omega) (by simp; omega) (by simp; omega)]
  simp only [Option.bind_some]
  have e1 : (P ++ R).take P.length ++ sortL bef (((P ++ R).take O.length).drop P.length) ++ (P ++ R).drop O.length = P ++ sortL bef R := by
    rw [List.take_of_length_le (l := P ++ R) (i := O.length) (by simp; omega), List.drop_of_length_le (l := P ++ R) (i := O.length) (by simp; omega), List.append_nil]
    simp
  rw [e1]
  have h0 : Blk bef 20 O (P ++ sortL bef R) := hB _ (.last (by omega))
  -- the passes
  obtain ⟨t, ht, rfl⟩ := loop_good (b := fun s : List S30 × Int => slices_stableCmpFunc_api_Event_l1 (O.length : Int) s.1 s.2) (s := (P ++ sortL bef R, 20))
    (fun s => ∃ (L : List S30) (n : Nat), s = (L, (n : Int)) ∧ 0 < n ∧ n < 2 ^ 41 ∧ Blk bef n O L)
    (fun s => ((O.length : Int) - s.2).toNat) (fun t => t = sortL bef O) ⟨_, 20, rfl, by decide, by decide, h0⟩ (by
      rintro s ⟨L, n, rfl, hn, hn', hBL⟩
      show (∃ s', slices_stableCmpFunc_api_Event_l1 (O.length : Int) L (n : Int) = some (.inl s') ∧ _) ∨ ∃ t, slices_stableCmpFunc_api_Event_l1 (O.length : Int) L (n : Int) = some (.inr t) ∧ _
      unfold slices_stableCmpFunc_api_Event_l1
      have en : IntKind.i64.wrap (2 * (n : Int)) = ((2 * n : Nat) : Int) := by rw [w64 (by omega) (by omega)]; omega
      by_cases hnO : n < O.length
      · rw [if_pos (by simp only [decide_eq_true_eq]; omega), en]
        -- one pass
        obtain ⟨t, ht, P', O', L', hP', hl', hB', hX'⟩ := loop_good (b := fun s : List S30 × Int × Int => slices_stableCmpFunc_api_Event_l2 (O.length : Int) (n : Int) s.1 s.2.1 s.2.2) (s := (L, 0, ((2 * n : Nat) : Int)))
          (fun s => ∃ P' O' L' : List S30, s = (P' ++ L', (P'.length : Int), ((P'.length + 2 * n : Nat) : Int)) ∧ P'.length + L'.length = O.length ∧ Blk bef n O' L' ∧ ∀ M, Blk bef (2 * n) O' M → Blk bef (2 * n) O (P' ++ M))
          (fun s => ((O.length : Int) + 1 - s.2.1).toNat)
          (fun t => ∃ P' O' L' : List S30, t = (P' ++ L', (P'.length : Int)) ∧ (P'.length + L'.length = O.length ∧ L'.length < 2 * n) ∧ Blk bef n O' L' ∧ ∀ M, Blk bef (2 * n) O' M → Blk bef (2 * n) O (P' ++ M))
          ⟨[], O, L, by simp, by simpa using hBL.length, hBL, fun M h => h⟩ (by
            rintro s ⟨P', O', L', rfl, hl', hB', hX'⟩
            show (∃ s', slices_stableCmpFunc_api_Event_l2 (O.length : Int) (n : Int) (P' ++ L') (P'.length : Int) ((P'.length + 2 * n : Nat) : Int) = some (.inl s') ∧ _) ∨ ∃ t, slices_stableCmpFunc_api_Event_l2 (O.length : Int) (n : Int) (P' ++ L') (P'.length : Int) ((P'.length + 2 * n : Nat) : Int) = some (.inr t) ∧ _
            unfold slices_stableCmpFunc_api_Event_l2
            have hlen := hB'.length
            by_cases hb : P'.length + 2 * n ≤ O.length
            · rw [if_pos (by simp only [decide_eq_true_eq]; omega), w64 (n := (P'.length : Int) + (n : Int)) (by omega) (by omega), en]
              -- two blocks
              have two : ∃ O1 O2 O3 L3, O' = O1 ++ O2 ++ O3 ∧ L' = sortL bef O1 ++ sortL bef O2 ++ L3 ∧ O1.length = n ∧ O2.length = n ∧ Blk bef n O3 L3 := by
                cases hB' with
                | last h1 => rw [sortL_length] at hlen hl'; omega
                | @cons O1 O2 L2 h1 h2 =>
                  cases h2 with
                  | @last O2 h2 =>
                    simp only [List.length_append, sortL_length] at hl'
                    refine ⟨O1, O2, [], [], by simp, by simp, h1, by omega, ?_⟩
                    exact Blk.last (lt := bef) (O := []) (Nat.zero_le n)
                  | @cons O2 O3 L3 h2 h3 => exact ⟨O1, O2, O3, L3, by simp, by simp, h1, h2, h3⟩
              obtain ⟨O1, O2, O3, L3, rfl, rfl, l1, l2, hB3⟩ := two
              simp only [List.length_append, sortL_length] at hl'
              have hm := symMerge_k 64 P' (sortL bef O1) (sortL bef O2) L3 (sortL_srt bef_swo _) (sortL_srt bef_swo _) (by rw [sortL_length]; omega) (by rw [sortL_length]; omega) (by rw [sortL_length, sortL_length]; omega) (by simp only [List.length_append, sortL_length]; omega)
              rw [sortL_two bef_swo, sortL_length, sortL_length] at hm
              rw [show P' ++ (sortL bef O1 ++ sortL bef O2 ++ L3) = P' ++ sortL bef O1 ++ sortL bef O2 ++ L3 by simp]
              have hm' : slices_symMergeCmpFunc_api_Event (P' ++ sortL bef O1 ++ sortL bef O2 ++ L3) (P'.length : Int) ((P'.length : Int) + (n : Int)) ((P'.length + 2 * n : Nat) : Int) = some (P' ++ sortL bef (O1 ++ O2) ++ L3) := by
                rw [show (P'.length : Int) + (n : Int) = ((P'.length + O1.length : Nat) : Int) by omega, show ((P'.length + 2 * n : Nat) : Int) = ((P'.length + O1.length + O2.length : Nat) : Int) by omega]
                exact hm
              rw [hm']
              simp only [Option.bind_some]
              refine .inl ⟨_, rfl, ⟨P' ++ sortL bef (O1 ++ O2), O3, L3, ?_, by simp only [List.length_append, sortL_length]; omega, hB3, fun M hM => ?_⟩, by simp only; omega⟩
              · rw [w64 (by omega) (by omega)]
                simp only [List.length_append, sortL_length, Prod.mk.injEq, true_and]
                omega
              · rw [List.append_assoc]
                exact hX' _ (.cons (by simp; omega) hM)
            · rw [if_neg (by simp only [decide_eq_true_eq]; omega)]
              exact .inr ⟨_, rfl, P', O', L', rfl, ⟨hl', by omega⟩, hB', hX'⟩)
        rw [ht, hP']
        obtain ⟨hl', hL'⟩ := hl'
        simp only [Option.bind_some]
        unfold slices_stableCmpFunc_api_Event_x2_4 slices_stableCmpFunc_api_Event_b3 slices_stableCmpFunc_api_Event_j1
        have hlen := hB'.length
        have en2 : IntKind.i64.wrap ((n : Int) * 2) = ((2 * n : Nat) : Int) := by rw [w64 (by omega) (by omega)]; omega
        rw [w64 (n := (P'.length : Int) + (n : Int)) (by omega) (by omega)]
        have fin : ∀ M, M = P' ++ sortL bef O' → (∃ s', (some (Sum.inl (M, ((2 * n : Nat) : Int))) : Option ((List S30 × Int) ⊕ List S30)) = some (.inl s') ∧ (∃ (L : List S30) (n : Nat), s' = (L, (n : Int)) ∧ 0 < n ∧ n < 2 ^ 41 ∧ Blk bef n O L) ∧ ((O.length : Int) - s'.2).toNat < ((O.length : Int) - (n : Int)).toNat) := by
          rintro M rfl
          exact ⟨_, rfl, ⟨_, 2 * n, rfl, by omega, by omega, hX' _ (.last (by omega))⟩, by simp only; omega⟩
        by_cases hq : P'.length + n < O.length
        · rw [if_pos (by simp only [decide_eq_true_eq]; omega)]
          cases hB' with
          | last h1 => rw [sortL_length] at hl'; omega
          | @cons O1 O2 L2 h1 h2 =>
            simp only [List.length_append, sortL_length] at hl' hL' hlen
            have h2l := h2.length
            have hd := h2.done (by omega)
            subst hd
            have hm := symMerge_k 64 P' (sortL bef O1) (sortL bef O2) [] (sortL_srt bef_swo _) (sortL_srt bef_swo _) (by rw [sortL_length]; omega) (by omega) (by rw [sortL_length, sortL_length]; omega) (by simp only [List.length_append, sortL_length, List.length_nil]; omega)
            rw [sortL_two bef_swo, sortL_length, sortL_length, List.append_nil, List.append_nil] at hm
            have hm' : slices_symMergeCmpFunc_api_Event (P' ++ (sortL bef O1 ++ sortL bef O2)) (P'.length : Int) ((P'.length : Int) + (n : Int)) (O.length : Int) = some (P' ++ sortL bef (O1 ++ O2)) := by
              rw [← List.append_assoc, show (P'.length : Int) + (n : Int) = ((P'.length + O1.length : Nat) : Int) by omega, show (O.length : Int) = ((P'.length + O1.length + O2.length : Nat) : Int) by omega]
              exact hm
            rw [hm']
            simp only [Option.bind_some, en2]
            exact .inl (fin _ rfl)
        · rw [if_neg (by simp only [decide_eq_true_eq]; omega), en2]
          exact .inl (fin _ (by rw [hB'.done (by omega)]))
      · rw [if_neg (by simp only [decide_eq_true_eq]; omega)]
        exact .inr ⟨_, rfl, hBL.done (by omega)⟩)
  rw [ht]
  rfl

theorem evSort_eq (l : List S30) (h : l.length < 2 ^ 40) : event_Sort l = some (sortL bef l) := by
  unfold event_Sort slices_Clone_api_Event_api_Event slices_SortStableFunc_api_Event_api_Event
  have hc : nilsplit l.isEmpty (some []) (chk (([] : List S30).length + l.length ≤ 140737488355328 / 48) (some l)) = some l := by
    rw [chk_pos (by simp; omega)]
    unfold nilsplit
    cases l <;> simp
  rw [hc]
  simp only [Option.bind_some, stable_eq l h]
end Go.Proofs.Ytpanacifejpjhaa.P
