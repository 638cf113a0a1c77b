/- Names, where they stand, how much is used: what the small functions of a store come to. -/
import Derived.Test.YtgjhiojkkjaloaaRc
import Derived.Test.YtgjhiojkkjaloaaDc
namespace Go.Proofs.Ytgjhiojkkjaloaa.P
open Go Go.RowKit Go.Proofs.Ytgjhiojkkjaloaa.E Go.Proofs.Ytgjhiojkkjaloaa.M
set_option linter.unusedVariables false

/-! names -/
def okc (c : UInt8) : Bool := decide (c.toNat = 46) || (decide (48 ≤ c.toNat) && decide (c.toNat ≤ 57)) || (decide (97 ≤ c.toNat) && decide (c.toNat ≤ 122))
def formN (n : List UInt8) : Bool := n.all okc && decide (1 ≤ n.length) && decide (n.length ≤ 32)

theorem form_round (a : List UInt8) (i : Nat) {c : UInt8} (hc : a[i]? = some c) : files_Form_l1 a (i : Int) = files_Form_j1 (i : Int) (!okc c) := by
  have hi := (List.getElem?_eq_some_iff.1 hc).1
  unfold files_Form_l1 okc
  rw [if_pos (by simp only [decide_eq_true_eq]; omega), at_int rfl hc]
  simp only [Option.bind_some, bne_iff_ne, ne_eq, decide_eq_true_eq]
  by_cases h1 : c.toNat = 46
  · rw [if_neg (by omega), decide_eq_true h1]; rfl
  rw [if_pos (by omega), decide_eq_false h1]
  by_cases h2 : c.toNat < 48
  · rw [if_pos (by omega), if_pos (by omega), decide_eq_false (show ¬ 48 ≤ c.toNat by omega), decide_eq_false (show ¬ 97 ≤ c.toNat by omega)]; rfl
  rw [if_neg (by omega), decide_eq_true (show 48 ≤ c.toNat by omega)]
  by_cases h3 : 57 < c.toNat
  · rw [if_pos (by omega), decide_eq_false (show ¬ c.toNat ≤ 57 by omega)]
    by_cases h4 : c.toNat < 97
    · rw [if_pos (by omega), decide_eq_false (show ¬ 97 ≤ c.toNat by omega)]; rfl
    · rw [if_neg (by omega), decide_eq_true (show 97 ≤ c.toNat by omega)]
      by_cases h5 : c.toNat ≤ 122
      · rw [decide_eq_true h5, decide_eq_false (by omega)]; rfl
      · rw [decide_eq_false h5, decide_eq_true (by omega)]; rfl
  · rw [if_neg (by omega), decide_eq_true (show c.toNat ≤ 57 by omega)]; rfl

theorem rform_round (a : List UInt8) (i : Nat) {c : UInt8} (hc : a[i]? = some c) : r05_Form_l1 a (i : Int) = r05_Form_j1 (i : Int) (!okc c) := by
  have hi := (List.getElem?_eq_some_iff.1 hc).1
  unfold r05_Form_l1 okc
  rw [if_pos (by simp only [decide_eq_true_eq]; omega), at_int rfl hc]
  simp only [Option.bind_some, beq_iff_eq, decide_eq_true_eq]
  by_cases h1 : c.toNat = 46
  · rw [if_pos (by omega), decide_eq_true h1]; rfl
  rw [if_neg (by omega), decide_eq_false h1]
  by_cases h2 : 48 ≤ c.toNat
  · rw [if_pos (by omega), decide_eq_true h2]
    by_cases h3 : c.toNat ≤ 57
    · rw [if_pos (by omega), decide_eq_true h3]; rfl
    · rw [if_neg (by omega), decide_eq_false h3]
      by_cases h4 : 97 ≤ c.toNat
      · rw [if_pos (by omega), decide_eq_true h4]
        by_cases h5 : c.toNat ≤ 122
        · rw [decide_eq_true h5, decide_eq_true (by omega)]; rfl
        · rw [decide_eq_false h5, decide_eq_false (by omega)]; rfl
      · rw [if_neg (by omega), decide_eq_false h4]; rfl
  · rw [if_neg (by omega), decide_eq_false h2]
    rw [if_neg (by omega), decide_eq_false (show ¬ 97 ≤ c.toNat by omega)]; rfl

theorem form_loop (a : List UInt8) (ha : a.length < 4611686018427387904) : ∀ (m i : Nat), i + m = a.length → loop (fun s => files_Form_l1 a s) (i : Int) = some (if (a.drop i).all okc = true then .inl () else .inr false)
  | 0, i, hi => by
    refine loop_end ?_
    show files_Form_l1 a (i : Int) = _
    unfold files_Form_l1
    rw [if_neg (by simp only [decide_eq_true_eq]; omega), List.drop_of_length_le (by omega)]
    rfl
  | m + 1, i, hi => by
    have hx := List.getElem?_eq_getElem (l := a) (i := i) (by omega)
    have hr := form_round a i hx
    have hd : a.drop i = a[i] :: a.drop (i + 1) := List.drop_eq_getElem_cons (by omega)
    cases hc : okc a[i] with
    | true =>
      rw [hc] at hr
      have : files_Form_l1 a (i : Int) = some (.inl ((i + 1 : Nat) : Int)) := by
        rw [hr]; unfold files_Form_j1; rw [if_neg (by simp), lt_, w64 (by omega) (by omega)]; rfl
      rw [loop_nxt (b := fun s => files_Form_l1 a s) this, form_loop a ha m (i + 1) (by omega), hd, List.all_cons, hc, Bool.true_and]
    | false =>
      rw [hc] at hr
      have : files_Form_l1 a (i : Int) = some (.inr (.inr false)) := by rw [hr]; rfl
      rw [loop_end (b := fun s => files_Form_l1 a s) this, hd, List.all_cons, hc, Bool.false_and]
      rfl
theorem Form_eq (a : List UInt8) (ha : a.length < 4611686018427387904) : files_Form a = some (formN a) := by
  unfold files_Form
  have h := form_loop a ha a.length 0 (by omega)
  rw [show ((0 : Nat) : Int) = 0 from rfl, List.drop_zero] at h
  rw [h]
  unfold formN
  cases a.all okc with
  | true =>
    show files_Form_b1 a = _
    unfold files_Form_b1
    cases a with
    | nil => rfl
    | cons c a =>
      rw [if_pos (show (!(c :: a == [])) = true from rfl)]
      simp only [List.length_cons, Bool.true_and, decide_eq_true (show 1 ≤ a.length + 1 by omega)]
      congr 1
      exact decide_eq_decide.2 (by omega)
  | false => rfl
theorem rform_loop (a : List UInt8) (ha : a.length < 4611686018427387904) : ∀ (m i : Nat), i + m = a.length → loop (fun s => r05_Form_l1 a s) (i : Int) = some (if (a.drop i).all okc = true then .inl () else .inr false)
  | 0, i, hi => by
    refine loop_end ?_
    show r05_Form_l1 a (i : Int) = _
    unfold r05_Form_l1
    rw [if_neg (by simp only [decide_eq_true_eq]; omega), List.drop_of_length_le (by omega)]
    rfl
  | m + 1, i, hi => by
    have hx := List.getElem?_eq_getElem (l := a) (i := i) (by omega)
    have hr := rform_round a i hx
    have hd : a.drop i = a[i] :: a.drop (i + 1) := List.drop_eq_getElem_cons (by omega)
    cases hc : okc a[i] with
    | true =>
      rw [hc] at hr
      have : r05_Form_l1 a (i : Int) = some (.inl ((i + 1 : Nat) : Int)) := by
        rw [hr]; unfold r05_Form_j1; rw [if_neg (by simp), lt_, w64 (by omega) (by omega)]; rfl
      rw [loop_nxt (b := fun s => r05_Form_l1 a s) this, rform_loop a ha m (i + 1) (by omega), hd, List.all_cons, hc, Bool.true_and]
    | false =>
      rw [hc] at hr
      have : r05_Form_l1 a (i : Int) = some (.inr (.inr false)) := by rw [hr]; rfl
      rw [loop_end (b := fun s => r05_Form_l1 a s) this, hd, List.all_cons, hc, Bool.false_and]
      rfl
theorem rForm_eq (a : List UInt8) (ha : a.length < 4611686018427387904) : r05_Form a = some (formN a) := by
  unfold r05_Form
  have h := rform_loop a ha a.length 0 (by omega)
  rw [show ((0 : Nat) : Int) = 0 from rfl, List.drop_zero] at h
  rw [h]
  unfold formN
  cases a.all okc with
  | true =>
    show r05_Form_b1 a = _
    unfold r05_Form_b1
    by_cases h1 : 1 ≤ a.length
    · rw [if_pos (by simp only [decide_eq_true_eq]; omega), decide_eq_true h1, Bool.true_and, Bool.true_and]
      congr 1
      exact decide_eq_decide.2 (by omega)
    · rw [if_neg (by simp only [decide_eq_true_eq]; omega), decide_eq_false h1]
      rfl
  | false => rfl

/-! where a name stands -/
theorem rise_mid {P D : List S73} {x : S73} (h : Rise (P ++ x :: D)) : (∀ y ∈ P, Op.bytesLess y.f0 x.f0 = true) ∧ (∀ y ∈ D, Op.bytesLess x.f0 y.f0 = true) := by
  obtain ⟨h1, h2, h3⟩ := List.pairwise_append.1 h
  exact ⟨fun y hy => h3 y hy x (List.mem_cons_self ..), (List.pairwise_cons.1 h2).1⟩
theorem bl_ne {a b : List UInt8} (h : Op.bytesLess a b = true) : a ≠ b := fun e => by subst e; rw [bl_irr] at h; cases h
theorem bl_asym {a b : List UInt8} (h : Op.bytesLess a b = true) : Op.bytesLess b a = false := by
  cases hb : Op.bytesLess b a with
  | false => rfl
  | true => have := bl_trans h hb; rw [bl_irr] at this; cases this
theorem pos_at {P D : List S73} {n : List UInt8} (hP : ∀ y ∈ P, Op.bytesLess y.f0 n = true) (hD : ∀ y, D.head? = some y → Op.bytesLess y.f0 n = false) : pos (P ++ D) n = P.length := by
  unfold pos
  rw [List.takeWhile_append_of_pos hP, List.length_append]
  cases D with
  | nil => rfl
  | cons y D => rw [List.takeWhile_cons, hD y rfl]; rfl
theorem pos_mid {P D : List S73} {x : S73} {n : List UInt8} (hn : x.f0 = n) (h : Rise (P ++ x :: D)) : pos (P ++ x :: D) n = P.length := by
  subst hn
  exact pos_at (rise_mid h).1 fun y hy => by cases hy; exact bl_irr _
theorem has_mid {P D : List S73} {x : S73} {n : List UInt8} (hn : x.f0 = n) (h : Rise (P ++ x :: D)) : has (P ++ x :: D) n = true := by
  unfold has
  rw [pos_mid hn h, List.getElem?_append_right (Nat.le_refl _), Nat.sub_self]
  simp [hn]
theorem pos_gap {P D : List S73} {n : List UInt8} (hP : ∀ y ∈ P, Op.bytesLess y.f0 n = true) (hD : ∀ y ∈ D, Op.bytesLess n y.f0 = true) : pos (P ++ D) n = P.length :=
  pos_at hP fun y hy => bl_asym (hD y (List.mem_of_mem_head? hy))
theorem has_gap {P D : List S73} {n : List UInt8} (hP : ∀ y ∈ P, Op.bytesLess y.f0 n = true) (hD : ∀ y ∈ D, Op.bytesLess n y.f0 = true) : has (P ++ D) n = false := by
  unfold has
  rw [pos_gap hP hD, List.getElem?_append_right (Nat.le_refl _), Nat.sub_self]
  cases D with
  | nil => rfl
  | cons y D =>
    show (y.f0 == n) = false
    rw [beq_eq_false_iff_ne]
    exact fun e => bl_ne (hD y (List.mem_cons_self ..)) e.symm
/-- a name stands somewhere, or it has its place -/
theorem place {l : List S73} (h : Rise l) (n : List UInt8) :
    (∃ P x D, l = P ++ x :: D ∧ x.f0 = n) ∨ ∃ P D, l = P ++ D ∧ (∀ y ∈ P, Op.bytesLess y.f0 n = true) ∧ ∀ y ∈ D, Op.bytesLess n y.f0 = true := by
  have hp := pos_le l n
  have hsp : l = l.take (pos l n) ++ l.drop (pos l n) := (List.take_append_drop _ _).symm
  have hP : ∀ y ∈ l.take (pos l n), Op.bytesLess y.f0 n = true := by
    intro y hy
    obtain ⟨j, hj⟩ := List.getElem?_of_mem hy
    rw [List.getElem?_take] at hj
    split at hj
    · exact (pos_iff h n hj).2 (by assumption)
    · cases hj
  cases hd : l.drop (pos l n) with
  | nil => rw [hd] at hsp; exact .inr ⟨_, [], hsp, hP, fun y hy => by cases hy⟩
  | cons x D =>
    rw [hd] at hsp
    have hx : l[pos l n]? = some x := by
      have : (l.drop (pos l n))[0]? = some x := by rw [hd]; rfl
      rwa [List.getElem?_drop, Nat.add_zero] at this
    have hxn : Op.bytesLess x.f0 n = false := by
      cases hb : Op.bytesLess x.f0 n with
      | false => rfl
      | true => have := (pos_iff h n hx).1 hb; omega
    by_cases e : x.f0 = n
    · exact .inl ⟨_, x, D, hsp, e⟩
    · refine .inr ⟨_, x :: D, hsp, hP, ?_⟩
      have hnx : Op.bytesLess n x.f0 = true := by
        cases hb : Op.bytesLess n x.f0 with
        | true => rfl
        | false => exact absurd (bl_tot hxn hb) e
      intro y hy
      rcases List.mem_cons.1 hy with rfl | hy
      · exact hnx
      · have hr := h
        rw [hsp] at hr
        exact bl_trans hnx ((rise_mid hr).2 y hy)
/-- an element made anew under its own name -/
theorem rise_same {P D : List S73} {x y : S73} (hn : x.f0 = y.f0) (h : Rise (P ++ x :: D)) : Rise (P ++ y :: D) := by
  obtain ⟨h1, h2, h3⟩ := List.pairwise_append.1 h
  obtain ⟨h4, h5⟩ := List.pairwise_cons.1 h2
  refine List.pairwise_append.2 ⟨h1, List.pairwise_cons.2 ⟨fun z hz => hn ▸ h4 z hz, h5⟩, fun a ha b hb => ?_⟩
  rcases List.mem_cons.1 hb with rfl | hb
  · rw [← hn]; exact h3 a ha x (List.mem_cons_self ..)
  · exact h3 a ha b (List.mem_cons_of_mem _ hb)
theorem rise_put {P D : List S73} {y : S73} (h : Rise (P ++ D)) (hP : ∀ z ∈ P, Op.bytesLess z.f0 y.f0 = true) (hD : ∀ z ∈ D, Op.bytesLess y.f0 z.f0 = true) : Rise (P ++ y :: D) := by
  obtain ⟨h1, h2, h3⟩ := List.pairwise_append.1 h
  refine List.pairwise_append.2 ⟨h1, List.pairwise_cons.2 ⟨hD, h2⟩, fun a ha b hb => ?_⟩
  rcases List.mem_cons.1 hb with rfl | hb
  · exact hP a ha
  · exact h3 a ha b hb
theorem rise_drop {P D : List S73} {x : S73} (h : Rise (P ++ x :: D)) : Rise (P ++ D) :=
  h.sublist (List.Sublist.append_left (List.sublist_cons_self x D) P)

/-! how much is used -/
def used (l : List S73) : Nat := (l.map fun x => x.f1.length).sum
theorem used_append (P D : List S73) : used (P ++ D) = used P + used D := by simp [used]
theorem used_cons (x : S73) (D : List S73) : used (x :: D) = x.f1.length + used D := by simp [used]
theorem used_mem {l : List S73} {x : S73} (h : x ∈ l) : x.f1.length ≤ used l := by
  induction l with
  | nil => cases h
  | cons y l ih =>
    rw [used_cons]
    rcases List.mem_cons.1 h with rfl | h
    · omega
    · have := ih h; omega
theorem used_loop (s : S68) (hl : s.f0.length < 4611686018427387904) (hu : used s.f0 < 4611686018427387904) : ∀ (m i : Nat), i + m = s.f0.length → loop (fun q : Int × Int => files_Store_Used_l1 s q.1 q.2) ((used (s.f0.take i) : Int), (i : Int)) = some (used s.f0 : Int)
  | 0, i, hi => by
    refine loop_end ?_
    show files_Store_Used_l1 s _ (i : Int) = _
    unfold files_Store_Used_l1
    rw [if_neg (by simp only [decide_eq_true_eq]; omega), List.take_of_length_le (by omega)]
  | m + 1, i, hi => by
    have hx := List.getElem?_eq_getElem (l := s.f0) (i := i) (by omega)
    have ht : s.f0.take (i + 1) = s.f0.take i ++ [s.f0[i]] := by rw [List.take_add_one, hx]; rfl
    have hle : used (s.f0.take (i + 1)) ≤ used s.f0 := by
      have := used_append (s.f0.take (i + 1)) (s.f0.drop (i + 1))
      rw [List.take_append_drop] at this
      omega
    have hs : used (s.f0.take (i + 1)) = used (s.f0.take i) + (s.f0[i]).f1.length := by rw [ht, used_append, used_cons]; rfl
    have : files_Store_Used_l1 s (used (s.f0.take i) : Int) (i : Int) = some (.inl ((used (s.f0.take (i + 1)) : Int), ((i + 1 : Nat) : Int))) := by
      unfold files_Store_Used_l1
      rw [if_pos (by simp only [decide_eq_true_eq]; omega), at_int rfl hx]
      simp only [Option.bind_some, lt_]
      rw [w64 (by omega) (by omega), w64 (by omega) (by omega), hs]
      rfl
    rw [loop_nxt (b := fun q : Int × Int => files_Store_Used_l1 s q.1 q.2) this]
    exact used_loop s hl hu m (i + 1) (by omega)
theorem Used_eq (s : S68) (hl : s.f0.length < 4611686018427387904) (hu : used s.f0 < 4611686018427387904) : files_Store_Used (some s) = some (used s.f0 : Int) := by
  show (loop (fun q : Int × Int => files_Store_Used_l1 s q.1 q.2) (0, 0)).bind _ = _
  have h := used_loop s hl hu s.f0.length 0 (by omega)
  rw [List.take_zero] at h
  rw [show ((0 : Int), (0 : Int)) = ((used [] : Int), ((0 : Nat) : Int)) from rfl, h]
  rfl

/-! the files' names -/
theorem list_loop (s : S68) (hl : s.f0.length < 1099511627776) : ∀ (m i : Nat), i + m = s.f0.length → loop (fun q : List (List UInt8) × Int => files_Store_List_l1 s q.1 q.2) ((s.f0.take i).map S73.f0, (i : Int)) = some (s.f0.map S73.f0)
  | 0, i, hi => by
    refine loop_end ?_
    show files_Store_List_l1 s _ (i : Int) = _
    unfold files_Store_List_l1
    rw [if_neg (by simp only [decide_eq_true_eq]; omega), List.take_of_length_le (by omega)]
  | m + 1, i, hi => by
    have hx := List.getElem?_eq_getElem (l := s.f0) (i := i) (by omega)
    have ht : s.f0.take (i + 1) = s.f0.take i ++ [s.f0[i]] := by rw [List.take_add_one, hx]; rfl
    have : files_Store_List_l1 s ((s.f0.take i).map S73.f0) (i : Int) = some (.inl ((s.f0.take (i + 1)).map S73.f0, ((i + 1 : Nat) : Int))) := by
      unfold files_Store_List_l1
      rw [if_pos (by simp only [decide_eq_true_eq]; omega), at_int rfl hx]
      simp only [Option.bind_some, lt_]
      rw [chk_pos (by simp only [List.length_map, List.length_take, List.length_singleton]; omega), w64 (by omega) (by omega), ht, List.map_append]
      rfl
    rw [loop_nxt (b := fun q : List (List UInt8) × Int => files_Store_List_l1 s q.1 q.2) this]
    exact list_loop s hl m (i + 1) (by omega)
theorem List_eq (s : S68) (hl : s.f0.length < 1099511627776) : files_Store_List (some s) = some (s.f0.map S73.f0) := by
  show (loop (fun q : List (List UInt8) × Int => files_Store_List_l1 s q.1 q.2) ([], 0)).bind _ = _
  have h := list_loop s hl s.f0.length 0 (by omega)
  rw [List.take_zero] at h
  rw [show (([] : List (List UInt8)), (0 : Int)) = (([] : List S73).map S73.f0, ((0 : Nat) : Int)) from rfl, h]
  rfl
end Go.Proofs.Ytgjhiojkkjaloaa.P
