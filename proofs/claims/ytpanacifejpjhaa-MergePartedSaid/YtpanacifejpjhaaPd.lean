/- The merge of runs, in plain words. -/
import Derived.Test.YtpanacifejpjhaaPc
import Derived.Test.YtpanacifejpjhaaDc
namespace Go.Proofs.Ytpanacifejpjhaa.P
open Go Go.RowKit Go.Proofs.Ytpanacifejpjhaa.E Go.Proofs.Ytpanacifejpjhaa.M
set_option linter.unusedVariables false

def hd (R : List (List S30)) (i : Nat) : Option S30 := R[i]?.bind List.head?
def cmpO (p q : Option S30) (a b : Nat) : Bool :=
  match p, q with
  | none, none => decide (a < b)
  | none, some _ => false
  | some _, none => true
  | some x, some y => bef x y || (!bef y x && decide (a < b))
def ahd (R : List (List S30)) (a b : Nat) : Bool := cmpO (hd R a) (hd R b) a b

theorem cmpO_trans : ∀ (p q r : Option S30) (a b c : Nat), cmpO p q a b = true → cmpO q r b c = true → cmpO p r a c = true
  | none, none, none, a, b, c, h1, h2 => by simp [cmpO] at *; omega
  | none, none, some _, a, b, c, h1, h2 => by simp [cmpO] at h2
  | none, some _, none, a, b, c, h1, h2 => by simp [cmpO] at h1
  | none, some _, some _, a, b, c, h1, h2 => by simp [cmpO] at h1
  | some _, none, none, a, b, c, h1, h2 => by simp [cmpO]
  | some _, none, some _, a, b, c, h1, h2 => by simp [cmpO] at h2
  | some _, some _, none, a, b, c, h1, h2 => by simp [cmpO]
  | some x, some y, some z, a, b, c, h1, h2 => by
    simp only [cmpO, Bool.or_eq_true, Bool.and_eq_true, Bool.not_eq_true', decide_eq_true_eq] at h1 h2 ⊢
    have hyx : bef y x = false := by
      rcases h1 with h1 | ⟨h1, _⟩
      · exact bef_swo.asymm h1
      · exact h1
    have hzy : bef z y = false := by
      rcases h2 with h2 | ⟨h2, _⟩
      · exact bef_swo.asymm h2
      · exact h2
    have hzx : bef z x = false := by
      cases h : bef z x with
      | false => rfl
      | true => rcases bef_swo.neg z y x h with h | h <;> simp_all
    rcases h1 with h1 | ⟨_, h1⟩
    · rcases bef_swo.neg x z y h1 with h | h
      · exact .inl h
      · rw [hzy] at h; cases h
    · rcases h2 with h2 | ⟨_, h2⟩
      · rcases bef_swo.neg y x z h2 with h | h
        · rw [hyx] at h; cases h
        · exact .inl h
      · exact .inr ⟨hzx, by omega⟩

theorem ahd_sto (R : List (List S30)) (k : Nat) : STO k (ahd R) := by
  refine ⟨fun a => ?_, fun a b c h1 h2 => cmpO_trans _ _ _ _ _ _ h1 h2, fun a b ha hb hn => ?_⟩
  · unfold ahd cmpO
    cases hd R a with
    | none => simp
    | some x => simp [bef_swo.irr]
  · unfold ahd cmpO
    cases hd R a <;> cases hd R b <;> simp
    · omega
    · rename_i x y
      cases h1 : bef x y <;> cases h2 : bef y x <;> simp
      omega

theorem ahead_eq (R : List (List S30)) (nd : List Int) {a b : Nat} (ha : a < R.length) (hb : b < R.length) (hl : R.length < 2 ^ 40) : merge_Tree_ahead ⟨R, nd⟩ (a : Int) (b : Int) = some (ahd R a b, ⟨R, nd⟩) := by
  unfold merge_Tree_ahead
  have h1 : R[a]? = some (R[a]'ha) := List.getElem?_eq_getElem ha
  have h2 : R[b]? = some (R[b]'hb) := List.getElem?_eq_getElem hb
  rw [at_int rfl h1, at_int rfl h2]
  simp only [Option.bind_some]
  unfold ahd hd cmpO
  rw [h1, h2]
  simp only [Option.bind_some]
  unfold merge_Tree_ahead_j1
  cases hx : R[a]'ha with
  | nil => cases hy : R[b]'hb with
    | nil => simp
    | cons y ys => simp; intro h; omega
  | cons x xs => cases hy : R[b]'hb with
    | nil => simp
    | cons y ys =>
      have e1 : ((((x :: xs).length : Nat) : Int) == 0) = false := by simp; omega
      have e2 : ((((y :: ys).length : Nat) : Int) == 0) = false := by simp; omega
      simp only [e1, e2, Bool.false_eq_true, if_false]
      rw [show at_ (x :: xs) 0 = some x from at_int (n := 0) rfl rfl, show at_ (y :: ys) 0 = some y from at_int (n := 0) rfl rfl]
      simp only [Option.bind_some, Less_eq, List.head?_cons]
      cases bef x y <;> cases bef y x <;> simp

structure TInv (R : List (List S30)) (nd : List Int) (W node : Nat → Nat) : Prop where
  pos : 1 ≤ R.length
  small : R.length < 2 ^ 40
  len : nd.length = R.length
  tour : Tour R.length (ahd R) W node
  top : nd[0]? = some (W 1 : Int)
  inner : ∀ i, 1 ≤ i → i < R.length → nd[i]? = some (node i : Int)

theorem hd_set (R : List (List S30)) (w : Nat) (t : List S30) (j : Nat) (h : j ≠ w) : hd (R.set w t) j = hd R j := by
  unfold hd; rw [List.getElem?_set_ne (Ne.symm h)]

theorem ahd_set (R : List (List S30)) (w : Nat) (t : List S30) (a b : Nat) (ha : a ≠ w) (hb : b ≠ w) : ahd (R.set w t) a b = ahd R a b := by
  unfold ahd; rw [hd_set R w t a ha, hd_set R w t b hb]

theorem tdiv2 (n : Nat) : ((n : Int)).tdiv 2 = ((n / 2 : Nat) : Int) := by
  rw [Int.tdiv_eq_ediv_of_nonneg (by omega)]; omega

/-- the way up behind a taking -/
theorem up_eq {R : List (List S30)} {nd : List Int} {W node : Nat → Nat} (h : TInv R nd W node) (t : List S30) :
    ∃ nd' W' node', loop (fun s : List (List S30) × List Int × Int × Int => merge_Tree_Next_l1 s.1 s.2.1 s.2.2.1 s.2.2.2) (R.set (W 1) t, nd, (W 1 : Int), (((W 1 + R.length) / 2 : Nat) : Int)) = some (R.set (W 1) t, nd', (W' 1 : Int)) ∧
      TInv (R.set (W 1) t) (nd'.set 0 (W' 1 : Int)) W' node' ∧ 0 < nd'.length := by
  have hk := h.pos
  have hw := (h.tour.below (i := 1) (by omega) (by omega)).1
  have hsm := h.small
  have hlen : (R.set (W 1) t).length = R.length := by simp
  have ho : STO R.length (ahd (R.set (W 1) t)) := ahd_sto _ _
  have hsto : STO R.length (ahd (R.set (W 1) t)) := ho
  obtain ⟨s, hs, nd', W', node', rfl, hT, hl', h0'⟩ := loop_good (b := fun s : List (List S30) × List Int × Int × Int => merge_Tree_Next_l1 s.1 s.2.1 s.2.2.1 s.2.2.2)
    (s := (R.set (W 1) t, nd, (W 1 : Int), (((W 1 + R.length) / 2 : Nat) : Int)))
    (fun s => ∃ c W' node' nd', s = (R.set (W 1) t, nd', (W' c : Int), ((c / 2 : Nat) : Int)) ∧ Way R.length (ahd R) (ahd (R.set (W 1) t)) W node c W' node' ∧ nd'.length = R.length ∧ ∀ i, 1 ≤ i → i < R.length → nd'[i]? = some (node' i : Int))
    (fun s => s.2.2.2.toNat)
    (fun s => ∃ nd' W' node', s = (R.set (W 1) t, nd', (W' 1 : Int)) ∧ Tour R.length (ahd (R.set (W 1) t)) W' node' ∧ nd'.length = R.length ∧ ∀ i, 1 ≤ i → i < R.length → nd'[i]? = some (node' i : Int))
    ⟨W 1 + R.length, W, node, nd, by
      have := h.tour.path hk (W 1 + R.length) (by omega) (Anc.refl _)
      rw [this], Way.start h.tour hk fun a b ha hb => ahd_set R (W 1) t a b ha hb, h.len, h.inner⟩ (by
      rintro s ⟨c, W', node', nd', rfl, hway, hl', hn⟩
      simp only
      unfold merge_Tree_Next_l1
      have hc2 : c < 2 * R.length := by have := hway.anc.le; omega
      rcases Nat.lt_or_ge c 2 with hc | hc
      · have hc1 : c = 1 := by have := hway.c1; omega
        subst hc1
        rw [if_neg (by simp)]
        exact .inr ⟨_, rfl, nd', W', node', rfl, hway.done, hl', hn⟩
      · have hst := hway.step h.tour hk hsto hc
        have hi1 : 1 ≤ c / 2 := by omega
        have hik : c / 2 < R.length := by omega
        have hnode : nd'[c / 2]? = some (node (c / 2) : Int) := by rw [hn _ hi1 hik, hway.todo _ ⟨1, by omega⟩ (by omega)]
        rw [if_pos (by simp; omega), at_int rfl hnode]
        simp only [Option.bind_some]
        rw [ahead_eq _ _ (by rw [hlen]; exact hst.1) (by rw [hlen]; exact hway.rng.1) (by rw [hlen]; exact hsm)]
        simp only [Option.bind_some]
        have hdiv : IntKind.i64.wrap (((c / 2 : Nat) : Int).tdiv 2) = ((c / 2 / 2 : Nat) : Int) := by rw [tdiv2, w64 (by omega) (by omega)]
        unfold merge_Tree_Next_b2
        cases hb : ahd (R.set (W 1) t) (node (c / 2)) (W' c) with
        | true =>
          rw [if_pos rfl, at_int rfl hnode]
          simp only [Option.bind_some, hdiv]
          refine .inl ⟨_, rfl, ⟨c / 2, _, _, nd'.set (c / 2) (W' c : Int), ?_, hst.2.1 hb, by simp [hl'], fun i h1 h2 => ?_⟩, by simp; omega⟩
          · simp [upd, show ((c : Int) / 2).toNat = c / 2 by omega]
          · by_cases hic : i = c / 2
            · subst hic; rw [List.getElem?_set_self (by omega)]; simp [upd]
            · rw [List.getElem?_set_ne (Ne.symm hic), hn i h1 h2]; simp [upd, hic]
        | false =>
          rw [if_neg (by simp), hdiv]
          refine .inl ⟨_, rfl, ⟨c / 2, _, _, _, ?_, hst.2.2 hb, hl', hn⟩, by simp; omega⟩
          simp [upd])
  refine ⟨nd', W', node', hs, ⟨by rw [hlen]; exact hk, by rw [hlen]; exact hsm, by simp [hl'], by rw [hlen]; exact hT, ?_, fun i h1 h2 => ?_⟩, by omega⟩
  · rw [List.getElem?_set_self (by omega)]
  · rw [List.getElem?_set_ne (by omega)]; exact h0' i h1 (by omega)

/-- one is taken -/
theorem Next_eq {R : List (List S30)} {nd : List Int} {W node : Nat → Nat} (h : TInv R nd W node) :
    (∀ r ∈ R, r = []) ∧ merge_Tree_Next (some ⟨R, nd⟩) = some (⟨0, 0, 0, [], 0⟩, 0, false, some ⟨R, nd⟩) ∨
      ∃ w e t nd' W' node', w < R.length ∧ R[w]? = some (e :: t) ∧ (∀ j, j < R.length → j ≠ w → ahd R w j = true) ∧
        merge_Tree_Next (some ⟨R, nd⟩) = some (e, (w : Int), true, some ⟨R.set w t, nd'⟩) ∧ TInv (R.set w t) nd' W' node' := by
  have hk := h.pos
  have hw := (h.tour.below (i := 1) (by omega) (by omega)).1
  have hmin : ∀ j, j < R.length → j ≠ W 1 → ahd R (W 1) j = true := fun j hj hn => h.tour.first (ahd_sto _ _) hk hj hn
  have hr : R[W 1]? = some (R[W 1]'hw) := List.getElem?_eq_getElem hw
  unfold merge_Tree_Next
  simp only
  rw [show at_ nd 0 = some (W 1 : Int) from at_int (n := 0) rfl h.top]
  simp only [Option.bind_some]
  rw [at_int rfl hr]
  simp only [Option.bind_some]
  cases he : R[W 1]'hw with
  | nil =>
    refine .inl ⟨fun r hrm => ?_, by simp⟩
    obtain ⟨j, hj, rfl⟩ := List.getElem_of_mem hrm
    by_cases hj1 : j = W 1
    · subst hj1; exact he
    · have := hmin j hj hj1
      unfold ahd cmpO hd at this
      rw [hr, he] at this
      simp only [Option.bind_some, List.head?_nil] at this
      rw [List.getElem?_eq_getElem hj] at this
      cases hh : R[j] with
      | nil => rfl
      | cons x xs => rw [hh] at this; simp at this
  | cons e t =>
    refine .inr ?_
    obtain ⟨nd', W', node', hl, hT, h0⟩ := up_eq h t
    have hsm := h.small
    have e1 : ((((e :: t).length : Nat) : Int) == 0) = false := by simp; omega
    simp only [e1, Bool.false_eq_true, if_false]
    rw [show at_ (e :: t) 0 = some e from at_int (n := 0) rfl rfl]
    simp only [Option.bind_some]
    have c1 := cut_nat (xs := e :: t) (l := 1) (u := (e :: t).length) (by simp) (Nat.le_refl _)
    rw [show ((1 : Nat) : Int) = 1 from rfl] at c1
    rw [c1]
    simp only [Option.bind_some, List.take_length, List.drop_one, List.tail_cons, Int.toNat_natCast, List.length_set]
    rw [w64 (n := (W 1 : Int) + (R.length : Int)) (by omega) (by omega), show (W 1 : Int) + (R.length : Int) = ((W 1 + R.length : Nat) : Int) by omega, tdiv2, w64 (by omega) (by omega), hl]
    simp only [Option.bind_some]
    refine ⟨W 1, e, t, _, W', node', hw, by rw [hr, he], hmin, ?_, hT⟩
    unfold merge_Tree_Next_x1_0 merge_Tree_Next_b1
    rw [show at_ nd' 0 = some (nd'[0]'h0) from at_int (n := 0) rfl (List.getElem?_eq_getElem h0)]
    rfl

/-! #### the tree of some runs -/
def Ok (R : List (List S30)) : Prop := ∀ r ∈ R, Srt bef r

theorem check_eq (r : List S30) (hl : r.length < 2 ^ 60) : ∃ t, loop (fun s => merge_New_l4 r s) 1 = some t ∧ ((t = .inl () ∧ Srt bef r) ∨ (t = .inr (none, 7) ∧ ¬ Srt bef r)) := by
  refine loop_good (b := fun s => merge_New_l4 r s) (s := (1 : Int)) (fun q => ∃ n : Nat, q = n ∧ 1 ≤ n ∧ ∀ i x y, i + 1 < n → r[i]? = some x → r[i + 1]? = some y → bef y x = false) (fun q => (r.length + 1 - q).toNat) _
    ⟨1, rfl, Nat.le_refl _, fun i x y h => by omega⟩ ?_
  rintro q ⟨n, rfl, hn, hadj⟩
  unfold merge_New_l4
  by_cases hnl : n < r.length
  · have h1 : r[n]? = some (r[n]'hnl) := List.getElem?_eq_getElem hnl
    have h2 : r[n - 1]? = some (r[n - 1]'(by omega)) := List.getElem?_eq_getElem (by omega)
    rw [if_pos (by simp; omega), at_int rfl h1, at_int (n := n - 1) (by rw [w64 (by omega) (by omega)]; omega) h2]
    simp only [Option.bind_some, Less_eq]
    cases hb : bef (r[n]'hnl) (r[n - 1]'(by omega)) with
    | true =>
      refine .inr ⟨_, rfl, .inr ⟨rfl, fun hs => ?_⟩⟩
      have := srt_get hs (show n - 1 < n by omega) h2 h1
      rw [hb] at this; cases this
    | false =>
      refine .inl ⟨((n + 1 : Nat) : Int), by simp; rw [w64 (by omega) (by omega)], ⟨n + 1, rfl, by omega, fun i x y hi hx hy => ?_⟩, by omega⟩
      rcases Nat.lt_or_ge (i + 1) n with h | h
      · exact hadj i x y h hx hy
      · obtain rfl : i + 1 = n := by omega
        rw [h1] at hy; cases hy
        simp only [Nat.add_sub_cancel] at h2 hb
        rw [h2] at hx; cases hx
        exact hb
  · rw [if_neg (by simp; omega)]
    exact .inr ⟨_, rfl, .inl ⟨rfl, srt_adj bef_swo fun i x y hx hy => hadj i x y (by have := (List.getElem?_eq_some_iff.1 hy).1; omega) hx hy⟩⟩

theorem checks_eq (R : List (List S30)) (hk : R.length < 2 ^ 40) (hl : ∀ r ∈ R, r.length < 2 ^ 60) :
    ∃ t, loop (fun s : List (List S30) × Int => merge_New_l3 R s.1 s.2) ([], 0) = some t ∧ ((t = .inl R ∧ Ok R) ∨ (t = .inr (none, 7) ∧ ¬ Ok R)) := by
  refine loop_good (b := fun s : List (List S30) × Int => merge_New_l3 R s.1 s.2) (s := ([], 0)) (fun s => ∃ n : Nat, s = (R.take n, (n : Int)) ∧ n ≤ R.length ∧ ∀ r ∈ R.take n, Srt bef r) (fun s => (R.length - s.2).toNat) _
    ⟨0, rfl, Nat.zero_le _, fun r h => by simp at h⟩ ?_
  rintro s ⟨n, rfl, hn, hok⟩
  show (∃ s', merge_New_l3 R (R.take n) (n : Int) = some (.inl s') ∧ _) ∨ ∃ t, merge_New_l3 R (R.take n) (n : Int) = some (.inr t) ∧ _
  unfold merge_New_l3
  by_cases hnl : n < R.length
  · have h1 : R[n]? = some (R[n]'hnl) := List.getElem?_eq_getElem hnl
    obtain ⟨t, ht, hc⟩ := check_eq (R[n]'hnl) (hl _ (List.getElem_mem hnl))
    rw [if_pos (by simp; omega), at_int rfl h1]
    simp only [Option.bind_some]
    rw [ht]
    simp only [Option.bind_some]
    rcases hc with ⟨rfl, hs⟩ | ⟨rfl, hs⟩
    · refine .inl ⟨(R.take (n + 1), ((n + 1 : Nat) : Int)), ?_, ⟨n + 1, rfl, by omega, fun r hr => ?_⟩, by simp; omega⟩
      · simp only
        unfold merge_New_x4_2 merge_New_b4
        rw [chk_pos (by simp; omega), w64 (by omega) (by omega)]
        simp
      · rw [List.take_add_one, h1] at hr
        simp only [Option.toList_some, List.mem_append, List.mem_singleton] at hr
        rcases hr with hr | rfl
        · exact hok r hr
        · exact hs
    · exact .inr ⟨_, rfl, .inr ⟨rfl, fun h => hs (h _ (List.getElem_mem hnl))⟩⟩
  · rw [if_neg (by simp; omega)]
    have : n = R.length := by omega
    subst this
    rw [List.take_length] at hok ⊢
    exact .inr ⟨_, rfl, .inl ⟨rfl, hok⟩⟩

theorem leaves_eq (R : List (List S30)) (hk : R.length < 2 ^ 40) : ∃ l, loop (fun s : List Int × Int => merge_New_l2 R s.1 s.2) (List.replicate (2 * R.length) 0, 0) = some l ∧
    l.length = 2 * R.length ∧ ∀ j, j < R.length → l[R.length + j]? = some (j : Int) := by
  refine loop_good (b := fun s : List Int × Int => merge_New_l2 R s.1 s.2) (s := (List.replicate (2 * R.length) 0, 0)) (fun s => ∃ l n, s = (l, ((n : Nat) : Int)) ∧ n ≤ R.length ∧ l.length = 2 * R.length ∧ ∀ j, j < n → l[R.length + j]? = some (j : Int)) (fun s => (R.length - s.2).toNat) _
    ⟨_, 0, rfl, Nat.zero_le _, by simp, fun j h => by omega⟩ ?_
  rintro s ⟨l, n, rfl, hn, hl, hj⟩
  show (∃ s', merge_New_l2 R l (n : Int) = some (.inl s') ∧ _) ∨ ∃ t, merge_New_l2 R l (n : Int) = some (.inr t) ∧ _
  unfold merge_New_l2
  by_cases hnl : n < R.length
  · have hw : IntKind.i64.wrap ((R.length : Int) + (n : Int)) = ((R.length + n : Nat) : Int) := by rw [w64 (by omega) (by omega)]; omega
    rw [if_pos (by simp; omega), hw, at_int rfl (List.getElem?_eq_getElem (show R.length + n < l.length by omega))]
    simp only [Option.bind_some, Int.toNat_natCast]
    rw [w64 (by omega) (by omega)]
    refine .inl ⟨_, rfl, ⟨_, n + 1, rfl, by omega, by simp [hl], fun j hjn => ?_⟩, by simp; omega⟩
    by_cases h : j = n
    · subst h; rw [List.getElem?_set_self (by omega)]
    · rw [List.getElem?_set_ne (by omega)]; exact hj j (by omega)
  · rw [if_neg (by simp; omega)]
    obtain rfl : n = R.length := by omega
    exact .inr ⟨_, rfl, hl, hj⟩

theorem rise_eq (R : List (List S30)) (hk : R.length < 2 ^ 40) (hp : 1 ≤ R.length) {l : List Int} (hl : l.length = 2 * R.length) (hj : ∀ j, j < R.length → l[R.length + j]? = some (j : Int)) :
    ∃ t, loop (fun s : List (List S30) × List Int × List Int × Int => merge_New_l1 s.1 s.2.1 s.2.2.1 s.2.2.2) (R, List.replicate R.length 0, l, ((R.length - 1 : Nat) : Int)) = some t ∧
      ∃ nd win W node, t = (R, nd, win) ∧ nd.length = R.length ∧ Tour R.length (ahd R) W node ∧ (∀ i, 1 ≤ i → i < R.length → nd[i]? = some (node i : Int)) ∧ win[1]? = some (W 1 : Int) := by
  refine loop_good (b := fun s : List (List S30) × List Int × List Int × Int => merge_New_l1 s.1 s.2.1 s.2.2.1 s.2.2.2) (s := (R, List.replicate R.length 0, l, ((R.length - 1 : Nat) : Int)))
    (fun s => ∃ nd win i W node, s = (R, nd, win, ((i : Nat) : Int)) ∧ i < R.length ∧ nd.length = R.length ∧ win.length = 2 * R.length ∧ Rise R.length (ahd R) i W node ∧ (∀ j, i < j → j < R.length → nd[j]? = some (node j : Int)) ∧ ∀ j, i < j → j < 2 * R.length → win[j]? = some (W j : Int))
    (fun s => s.2.2.2.toNat) _
    ⟨_, _, R.length - 1, fun j => j - R.length, fun _ => 0, rfl, by omega, by simp, hl, ⟨fun j _ => by simp, fun j h1 h2 _ => by omega⟩, fun j h1 h2 => by omega, fun j h1 h2 => by
      have := hj (j - R.length) (by omega)
      rwa [show R.length + (j - R.length) = j by omega] at this⟩ ?_
  rintro s ⟨nd, win, i, W, node, rfl, hi, hnl, hwl, hr, hn, hw⟩
  show (∃ s', merge_New_l1 R nd win (i : Int) = some (.inl s') ∧ _) ∨ ∃ t, merge_New_l1 R nd win (i : Int) = some (.inr t) ∧ _
  unfold merge_New_l1
  by_cases h0 : 0 < i
  · have hst := hr.step (ahd_sto _ _) h0 hi
    have e1 : IntKind.i64.wrap (2 * (i : Int)) = ((2 * i : Nat) : Int) := by rw [w64 (by omega) (by omega)]; omega
    have e2 : IntKind.i64.wrap (((2 * i : Nat) : Int) + 1) = ((2 * i + 1 : Nat) : Int) := by rw [w64 (by omega) (by omega)]; omega
    have e3 : IntKind.i64.wrap ((i : Int) - 1) = ((i - 1 : Nat) : Int) := by rw [w64 (by omega) (by omega)]; omega
    rw [if_pos (by simp; omega), e1, e2, at_int rfl (hw (2 * i) (by omega) (by omega)), at_int rfl (hw (2 * i + 1) (by omega) (by omega))]
    simp only [Option.bind_some]
    rw [ahead_eq _ _ hst.2.1 hst.1 hk]
    simp only [Option.bind_some]
    unfold merge_New_j2
    have g1 : at_ win (i : Int) = some (win[i]'(by omega)) := at_int rfl (List.getElem?_eq_getElem (by omega))
    have g2 : at_ nd (i : Int) = some (nd[i]'(by omega)) := at_int rfl (List.getElem?_eq_getElem (by omega))
    simp only [g1, g2, Option.bind_some, Int.toNat_natCast, e3]
    have fin : ∀ x y : Nat, Rise R.length (ahd R) (i - 1) (upd W i x) (upd node i y) → ∃ nd' win' i' W' node', (R, nd.set i (y : Int), win.set i (x : Int), ((i - 1 : Nat) : Int)) = (R, nd', win', ((i' : Nat) : Int)) ∧ i' < R.length ∧ nd'.length = R.length ∧ win'.length = 2 * R.length ∧ Rise R.length (ahd R) i' W' node' ∧ (∀ j, i' < j → j < R.length → nd'[j]? = some (node' j : Int)) ∧ ∀ j, i' < j → j < 2 * R.length → win'[j]? = some (W' j : Int) := by
      intro x y h
      refine ⟨_, _, i - 1, _, _, rfl, by omega, by simp [hnl], by simp [hwl], h, fun j h1 h2 => ?_, fun j h1 h2 => ?_⟩
      · by_cases hji : j = i
        · subst hji; rw [List.getElem?_set_self (by omega)]; simp [upd]
        · rw [List.getElem?_set_ne (Ne.symm hji), hn j (by omega) h2]; simp [upd, hji]
      · by_cases hji : j = i
        · subst hji; rw [List.getElem?_set_self (by omega)]; simp [upd]
        · rw [List.getElem?_set_ne (Ne.symm hji), hw j (by omega) h2]; simp [upd, hji]
    cases hb : ahd R (W (2 * i + 1)) (W (2 * i)) with
    | true => rw [if_pos rfl]; exact .inl ⟨_, rfl, fin _ _ (hst.2.2.1 hb), by simp; omega⟩
    | false => rw [if_neg (by simp)]; exact .inl ⟨_, rfl, fin _ _ (hst.2.2.2 hb), by simp; omega⟩
  · obtain rfl : i = 0 := by omega
    rw [if_neg (by simp)]
    exact .inr ⟨_, rfl, nd, win, W, node, rfl, hnl, hr.done, fun i h1 h2 => hn i (by omega) h2, hw 1 (by omega) (by omega)⟩

theorem New_eq (R : List (List S30)) (hl : ∀ r ∈ R, r.length < 2 ^ 60) (hb : R.length < 2 ^ 62) :
    (R.length < 1 ∨ 16 < R.length) ∧ merge_New R = some (none, 1) ∨ 1 ≤ R.length ∧ R.length ≤ 16 ∧ ¬ Ok R ∧ merge_New R = some (none, 7) ∨
      1 ≤ R.length ∧ R.length ≤ 16 ∧ Ok R ∧ ∃ nd W node, merge_New R = some (some ⟨R, nd⟩, 0) ∧ TInv R nd W node := by
  unfold merge_New
  by_cases h1 : R.length < 1
  · rw [if_pos (by simp; omega)]
    exact .inl ⟨.inl h1, rfl⟩
  rw [if_neg (by simp; omega)]
  by_cases h2 : 16 < R.length
  · rw [show decide (16 < (R.length : Int)) = true by simp; omega]
    exact .inl ⟨.inr h2, rfl⟩
  rw [show decide (16 < (R.length : Int)) = false by simp; omega]
  refine .inr ?_
  unfold merge_New_j1
  rw [if_neg (by simp)]
  obtain ⟨t, ht, hc⟩ := checks_eq R (by omega) hl
  rw [ht]
  simp only [Option.bind_some]
  rcases hc with ⟨rfl, hok⟩ | ⟨rfl, hok⟩
  · refine .inr ⟨by omega, by omega, hok, ?_⟩
    simp only
    unfold merge_New_x3_0 merge_New_b1
    obtain ⟨l, hl, hll, hlj⟩ := leaves_eq R (by omega)
    have e0 : IntKind.i64.wrap (2 * (R.length : Int)) = ((2 * R.length : Nat) : Int) := by rw [w64 (by omega) (by omega)]; omega
    have e3 : IntKind.i64.wrap ((R.length : Int) - 1) = ((R.length - 1 : Nat) : Int) := by rw [w64 (by omega) (by omega)]; omega
    have e4 : IntKind.i64.wrap (((2 * R.length : Nat) : Int) - 1) = ((2 * R.length - 1 : Nat) : Int) := by rw [w64 (by omega) (by omega)]; omega
    rw [e0, chk_pos (by omega), chk_pos (by omega), Int.toNat_natCast, hl]
    simp only [Option.bind_some]
    unfold merge_New_x2_4 merge_New_b2
    obtain ⟨t, ht, nd, win, W, node, rfl, hnl, hT, hn, hw⟩ := rise_eq R (by omega) (by omega) hll hlj
    rw [e3, Int.toNat_natCast, ht]
    simp only [Option.bind_some]
    unfold merge_New_x1_6 merge_New_b3
    rw [e0, e4]
    have hmin : (if ((2 * R.length - 1 : Nat) : Int) < 1 then ((2 * R.length - 1 : Nat) : Int) else 1) = 1 := by rw [if_neg (by omega)]
    rw [hmin, show at_ win 1 = some (W 1 : Int) from at_int (n := 1) rfl hw, show at_ nd 0 = some (nd[0]'(by omega)) from at_int (n := 0) rfl (List.getElem?_eq_getElem (by omega))]
    simp only [Option.bind_some]
    refine ⟨_, W, node, rfl, by omega, by omega, by simp [hnl], hT, ?_, fun i h1 h2 => ?_⟩
    · show (nd.set 0 _)[0]? = _
      rw [List.getElem?_set_self (by omega)]
    · show (nd.set 0 _)[i]? = _
      rw [List.getElem?_set_ne (by omega)]; exact hn i h1 h2
  · exact .inl ⟨by omega, by omega, hok, rfl⟩

/-- behind a taking the rest is what is sorted behind it -/
theorem take_sort {R : List (List S30)} (hok : Ok R) {w : Nat} {e : S30} {t : List S30} (hw : R[w]? = some (e :: t)) (hmin : ∀ j, j < R.length → j ≠ w → ahd R w j = true) :
    sortL bef R.flatten = e :: sortL bef (R.set w t).flatten ∧ Ok (R.set w t) := by
  obtain ⟨hwl, hwe⟩ := List.getElem?_eq_some_iff.1 hw
  have hR : R = R.take w ++ (e :: t) :: R.drop (w + 1) := by
    rw [← hwe, ← List.drop_eq_getElem_cons hwl, List.take_append_drop]
  have hS : R.set w t = R.take w ++ t :: R.drop (w + 1) := List.set_eq_take_append_cons_drop.trans (if_pos hwl)
  have ht : Srt bef (e :: t) := hok _ (by rw [← hwe]; exact List.getElem_mem hwl)
  have ht' := List.pairwise_cons.1 ht
  have hcmp : ∀ j r, j ≠ w → R[j]? = some r → ∀ x ∈ r, (j < w → bef e x = true) ∧ bef x e = false := by
    intro j r hjw hjr x hx
    have hjl := (List.getElem?_eq_some_iff.1 hjr).1
    have h := hmin j hjl hjw
    unfold ahd cmpO hd at h
    rw [hw, hjr] at h
    cases r with
    | nil => simp at hx
    | cons y ys =>
      simp only [Option.bind_some, List.head?_cons, Bool.or_eq_true, Bool.and_eq_true, Bool.not_eq_true', decide_eq_true_eq] at h
      have hye : bef y e = false := by
        rcases h with h | ⟨h, _⟩
        · exact bef_swo.asymm h
        · exact h
      have hxy : bef x y = false := by
        rcases List.mem_cons.1 hx with rfl | hx
        · exact bef_swo.irr _
        · exact (List.pairwise_cons.1 (hok _ (List.mem_of_getElem? hjr))).1 x hx
      refine ⟨fun hlt => ?_, ?_⟩
      · rcases h with h | ⟨_, h⟩
        · rcases bef_swo.neg e x y h with h2 | h2
          · exact h2
          · rw [hxy] at h2; cases h2
        · omega
      · cases h3 : bef x e with
        | false => rfl
        | true =>
          rcases bef_swo.neg x y e h3 with h4 | h4
          · rw [hxy] at h4; cases h4
          · rw [hye] at h4; cases h4
  refine ⟨?_, fun r hr => ?_⟩
  · conv => lhs; rw [hR]
    rw [hS, List.flatten_append, List.flatten_append, List.flatten_cons, List.flatten_cons, List.cons_append]
    refine sortL_first (fun a ha => ?_) fun c hc => ?_
    · obtain ⟨r, hr, har⟩ := List.mem_flatten.1 ha
      obtain ⟨j, hj⟩ := List.getElem?_of_mem hr
      have hjw : j < w := by have := (List.getElem?_eq_some_iff.1 hj).1; simp at this; omega
      rw [List.getElem?_take, if_pos hjw] at hj
      exact (hcmp j r (by omega) hj a har).1 hjw
    · rcases List.mem_append.1 hc with hc | hc
      · exact ht'.1 c hc
      · obtain ⟨r, hr, hcr⟩ := List.mem_flatten.1 hc
        obtain ⟨j, hj⟩ := List.getElem?_of_mem hr
        rw [List.getElem?_drop] at hj
        exact (hcmp _ r (by omega) hj c hcr).2
  · rcases List.mem_or_eq_of_mem_set hr with hr | rfl
    · exact hok r hr
    · exact ht'.2

theorem flat_nil {R : List (List S30)} (h : ∀ r ∈ R, r = []) : R.flatten = [] := by
  simpa [List.flatten_eq_nil_iff] using h

theorem flat_set {R : List (List S30)} {w : Nat} {e : S30} {t : List S30} (hw : R[w]? = some (e :: t)) : R.flatten.length = (R.set w t).flatten.length + 1 := by
  obtain ⟨hwl, hwe⟩ := List.getElem?_eq_some_iff.1 hw
  have hR : R = R.take w ++ (e :: t) :: R.drop (w + 1) := by
    rw [← hwe, ← List.drop_eq_getElem_cons hwl, List.take_append_drop]
  have hS : R.set w t = R.take w ++ t :: R.drop (w + 1) := List.set_eq_take_append_cons_drop.trans (if_pos hwl)
  conv => lhs; rw [hR]
  rw [hS]
  simp [List.flatten_append]
  omega

theorem All_eq (R : List (List S30)) (hl : ∀ r ∈ R, r.length < 2 ^ 60) (hb : R.length < 2 ^ 62) (hf : R.flatten.length < 2 ^ 40) :
    (R.length < 1 ∨ 16 < R.length) ∧ merge_All R = some ([], 1) ∨ 1 ≤ R.length ∧ R.length ≤ 16 ∧ ¬ Ok R ∧ merge_All R = some ([], 7) ∨
      1 ≤ R.length ∧ R.length ≤ 16 ∧ Ok R ∧ merge_All R = some (sortL bef R.flatten, 0) := by
  unfold merge_All
  rcases New_eq R hl hb with ⟨h, hN⟩ | ⟨h1, h2, hok, hN⟩ | ⟨h1, h2, hok, nd, W, node, hN, hT⟩
  · exact .inl ⟨h, by rw [hN]; rfl⟩
  · exact .inr (.inl ⟨h1, h2, hok, by rw [hN]; rfl⟩)
  · refine .inr (.inr ⟨h1, h2, hok, ?_⟩)
    rw [hN]
    simp only [Option.bind_some]
    rw [if_neg (by simp)]
    -- one step, as the loop's invariant has it
    let Inv : Option S48 × List S30 × Int × Int × Int × List UInt8 × Nat × Bool → Prop := fun s =>
      ∃ R' nd' W' node' out, s.1 = some ⟨R', nd'⟩ ∧ s.2.1 = out ∧ TInv R' nd' W' node' ∧ Ok R' ∧ R'.flatten.length < 2 ^ 40 ∧
        ((s.2.2.2.2.2.2.2 = true ∧ sortL bef R.flatten = out ++ (⟨s.2.2.1, s.2.2.2.1, s.2.2.2.2.1, s.2.2.2.2.2.1, s.2.2.2.2.2.2.1⟩ : S30) :: sortL bef R'.flatten) ∨
          (s.2.2.2.2.2.2.2 = false ∧ R'.flatten = [] ∧ sortL bef R.flatten = out))
    have nxt : ∀ R' nd' W' node' out, TInv R' nd' W' node' → Ok R' → R'.flatten.length < 2 ^ 40 → sortL bef R.flatten = out ++ sortL bef R'.flatten →
        ∃ y, merge_Tree_Next (some ⟨R', nd'⟩) = some y ∧ Inv (y.2.2.2, out, y.1.f0, y.1.f1, y.1.f2, y.1.f3, y.1.f4, y.2.2.1) ∧
          ∀ R'' nd'', y.2.2.2 = some (⟨R'', nd''⟩ : S48) → R''.flatten.length + (if y.2.2.1 then 1 else 0) = R'.flatten.length := by
      intro R' nd' W' node' out hT' hok' hfl hs
      rcases Next_eq hT' with ⟨he, hN'⟩ | ⟨w, e, t, nd2, W2, node2, hw, hwe, hmin, hN', hT2⟩
      · refine ⟨_, hN', ⟨R', nd', W', node', out, rfl, rfl, hT', hok', hfl, .inr ⟨rfl, flat_nil he, ?_⟩⟩, fun R'' nd'' h => ?_⟩
        · rw [hs, flat_nil he]; simp [sortL]
        · cases h; simp
      · obtain ⟨hsort, hok2⟩ := take_sort hok' hwe hmin
        have hlen := flat_set hwe
        refine ⟨_, hN', ⟨_, nd2, W2, node2, out, rfl, rfl, hT2, hok2, by omega, .inl ⟨rfl, ?_⟩⟩, fun R'' nd'' h => ?_⟩
        · rw [hs, hsort]
        · cases h; simp only [if_true]; omega
    obtain ⟨y, hy, hI, _⟩ := nxt R nd W node [] hT hok hf (by simp)
    rw [hy]
    simp only [Option.bind_some]
    obtain ⟨r, hr, hrr⟩ := loop_good (b := fun s : Option S48 × List S30 × Int × Int × Int × List UInt8 × Nat × Bool => merge_All_l1 s.1 s.2.1 s.2.2.1 s.2.2.2.1 s.2.2.2.2.1 s.2.2.2.2.2.1 s.2.2.2.2.2.2.1 s.2.2.2.2.2.2.2)
      (s := (y.2.2.2, [], y.1.f0, y.1.f1, y.1.f2, y.1.f3, y.1.f4, y.2.2.1)) Inv (fun s => (match s.1 with | some x => x.f0.flatten.length | none => 0) + (if s.2.2.2.2.2.2.2 then 1 else 0)) (fun r => r = sortL bef R.flatten) hI (by
        rintro ⟨s1, s2, s3, s4, s5, s6, s7, s8⟩ ⟨R', nd', W', node', out, h1, h2, hT', hok', hfl, hc⟩
        simp only at h1 h2 hc
        subst h1 h2
        simp only
        unfold merge_All_l1
        rcases hc with ⟨rfl, hs⟩ | ⟨rfl, he, hs⟩
        · rw [if_pos rfl]
          obtain ⟨y, hy, hI, hm⟩ := nxt R' nd' W' node' (s2 ++ [⟨s3, s4, s5, s6, s7⟩]) hT' hok' hfl (by rw [hs]; simp)
          have hlen := sortL_length (lt := bef) R.flatten
          rw [hs] at hlen
          simp only [List.length_append, List.length_cons] at hlen
          rw [chk_pos (by simp; omega), hy]
          simp only [Option.bind_some]
          refine .inl ⟨_, rfl, hI, ?_⟩
          obtain ⟨R2, nd2, W2, node2, out2, e1, _⟩ := hI
          simp only at e1
          have := hm R2 nd2 e1
          simp only [e1, if_true]
          omega
        · rw [if_neg (by simp)]
          exact .inr ⟨_, rfl, hs.symm⟩)
    rw [hr]
    simp only [Option.bind_some]
    unfold merge_All_x1_0 merge_All_b1
    rw [hrr]
end Go.Proofs.Ytpanacifejpjhaa.P
