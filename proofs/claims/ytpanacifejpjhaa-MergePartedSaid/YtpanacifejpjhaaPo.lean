/- MergeParted, in plain words. -/
import Derived.Test.YtpanacifejpjhaaPe
import Derived.Test.YtpanacifejpjhaaDg
namespace Go.Proofs.Ytpanacifejpjhaa.P
open Go Go.RowKit Go.Proofs.Ytpanacifejpjhaa.E Go.Proofs.Ytpanacifejpjhaa.M
set_option linter.unusedVariables false

section
variable {α : Type} {lt : α → α → Bool}
theorem ins_perm (x : α) : ∀ l : List α, (ins lt x l).Perm (x :: l)
  | [] => List.Perm.refl _
  | y :: l => by
    unfold ins
    split
    · exact List.Perm.refl _
    · exact ((ins_perm x l).cons y).trans (List.Perm.swap x y l)
theorem foldl_perm : ∀ (l acc : List α), (l.foldl (fun acc x => ins lt x acc) acc).Perm (acc ++ l)
  | [], acc => by simp
  | x :: l, acc => (foldl_perm l _).trans (((ins_perm x acc).append_right l).trans List.perm_middle.symm)
theorem sortL_perm (l : List α) : (sortL lt l).Perm l := by
  have := foldl_perm (lt := lt) l []
  rwa [List.nil_append] at this
/-- two rows of the same elements, each in its order, stand alike at each place -/
theorem alike (h : SWO lt) {l m : List α} (hl : Srt lt l) (hm : Srt lt m) (hp : l.Perm m) {i : Nat} {x y : α} (hx : l[i]? = some x) (hy : m[i]? = some y) : lt x y = false := by
  cases hxy : lt x y with
  | false => rfl
  | true =>
    exfalso
    have hc := hp.countP_eq (fun z => lt z y)
    obtain ⟨hil, hix⟩ := List.getElem?_eq_some_iff.1 hx
    obtain ⟨him, _⟩ := List.getElem?_eq_some_iff.1 hy
    have h1 : (l.take (i + 1)).countP (fun z => lt z y) = i + 1 := by
      have e : (l.take (i + 1)).length = i + 1 := by rw [List.length_take]; omega
      refine (List.countP_eq_length.2 ?_).trans e
      intro z hz
      obtain ⟨j, hj⟩ := List.getElem?_of_mem hz
      rw [List.getElem?_take] at hj
      split at hj
      · rcases Nat.lt_or_ge j i with hji | hji
        · have hs := srt_get hl hji hj hx
          rcases h.neg x z y hxy with q | q
          · rw [hs] at q; cases q
          · exact q
        · have : j = i := by omega
          subst this
          rw [hx] at hj
          cases hj
          exact hxy
      · cases hj
    have h2 : (m.drop i).countP (fun z => lt z y) = 0 := by
      rw [List.countP_eq_zero]
      intro z hz
      obtain ⟨j, hj⟩ := List.getElem?_of_mem hz
      rw [List.getElem?_drop] at hj
      rcases Nat.eq_zero_or_pos j with q | q
      · subst q
        rw [Nat.add_zero, hy] at hj
        cases hj
        rw [h.irr]; simp
      · rw [srt_get hm (show i < i + j by omega) hy hj]; simp
    have h3 : (m.take i).countP (fun z => lt z y) ≤ i := Nat.le_trans List.countP_le_length (by rw [List.length_take]; omega)
    have e1 : l.countP (fun z => lt z y) = (l.take (i + 1)).countP (fun z => lt z y) + (l.drop (i + 1)).countP (fun z => lt z y) := by rw [← List.countP_append, List.take_append_drop]
    have e2 : m.countP (fun z => lt z y) = (m.take i).countP (fun z => lt z y) + (m.drop i).countP (fun z => lt z y) := by rw [← List.countP_append, List.take_append_drop]
    omega
end

theorem flat_set_perm {R : List (List S30)} {k : Nat} {r : List S30} (x : S30) (h : R[k]? = some r) : (R.set k (r ++ [x])).flatten.Perm (R.flatten ++ [x]) := by
  obtain ⟨hk, hkr⟩ := List.getElem?_eq_some_iff.1 h
  have e1 : R = R.take k ++ r :: R.drop (k + 1) := by
    rw [← hkr, ← List.drop_eq_getElem_cons hk, List.take_append_drop]
  have e2 : R.set k (r ++ [x]) = R.take k ++ (r ++ [x]) :: R.drop (k + 1) := by
    rw [List.set_eq_take_append_cons_drop, if_pos hk]
  rw [e2]
  conv => rhs; rw [e1]
  simp only [List.flatten_append, List.flatten_cons, List.append_assoc]
  refine List.Perm.append_left _ (List.Perm.append_left _ ?_)
  exact List.perm_append_comm

theorem parted_step {a1 : List Int} (ha : ∀ x ∈ a1, 0 ≤ x ∧ x < 256) (hl : a1.length < 4611686018427387904) {s : List S30} (hs : Srt bef s) (hsl : s.length ≤ 100) {R : List (List S30)} {k : Nat} (hk : k < s.length)
    (hRl : R.length = 1 + a1.length % 16) (hok : Ok R) (hp : R.flatten.Perm (s.take k)) :
    ∃ R', law09_MergeParted_l2 a1 s R (k : Int) = some (.inl (R', ((k + 1 : Nat) : Int))) ∧ R'.length = 1 + a1.length % 16 ∧ Ok R' ∧ R'.flatten.Perm (s.take (k + 1)) := by
  have hx := List.getElem?_eq_getElem hk
  have hn : IntKind.i64.wrap (1 + ((a1.length : Int).tmod 16)) = ((1 + a1.length % 16 : Nat) : Int) := by
    rw [show ((a1.length : Int).tmod 16) = ((a1.length % 16 : Nat) : Int) from rfl, w64 (by omega) (by omega)]
    omega
  have hfl := hp.length_eq
  rw [List.length_take] at hfl
  have hstep : ∀ j : Nat, j < 1 + a1.length % 16 → ∃ R', law09_MergeParted_j4 s R (k : Int) (j : Int) = some (.inl (R', ((k + 1 : Nat) : Int))) ∧ R'.length = 1 + a1.length % 16 ∧ Ok R' ∧ R'.flatten.Perm (s.take (k + 1)) := by
    intro j hj
    have hr := List.getElem?_eq_getElem (l := R) (i := j) (by omega)
    generalize R[j] = r at hr
    have hrR : r ∈ R := List.mem_of_getElem? hr
    have hrl : r.length ≤ R.flatten.length := by
      have := List.Sublist.length_le (List.sublist_flatten_of_mem hrR)
      exact this
    refine ⟨R.set j (r ++ [s[k]]), ?_, by rw [List.length_set]; exact hRl, ?_, ?_⟩
    · unfold law09_MergeParted_j4
      rw [at_int rfl hr]
      simp only [Option.bind_some]
      rw [at_int rfl hx]
      simp only [Option.bind_some]
      rw [chk_pos (by simp only [List.length_singleton]; omega), Int.toNat_natCast, w64 (by omega) (by omega)]
      rfl
    · intro q hq
      rcases List.mem_or_eq_of_mem_set hq with h | h
      · exact hok q h
      · subst h
        refine List.pairwise_append.2 ⟨hok r hrR, List.pairwise_singleton _ _, fun y hy z hz => ?_⟩
        rw [List.mem_singleton.1 hz]
        have hy2 : y ∈ s.take k := hp.mem_iff.1 (List.mem_flatten.2 ⟨r, hrR, hy⟩)
        obtain ⟨m, hm⟩ := List.getElem?_of_mem hy2
        rw [List.getElem?_take] at hm
        split at hm
        · exact srt_get hs (by assumption) hm hx
        · cases hm
    · refine (flat_set_perm s[k] hr).trans ?_
      rw [List.take_add_one, hx]
      exact hp.append_right _
  unfold law09_MergeParted_l2
  rw [if_pos (by simp only [decide_eq_true_eq]; omega), hn, chk_pos (by omega)]
  by_cases hka : k < a1.length
  · have hax := List.getElem?_eq_getElem hka
    have hab := ha _ (List.mem_of_getElem? hax)
    obtain ⟨b, hb⟩ : ∃ b : Nat, a1[k] = (b : Int) := ⟨a1[k].toNat, by omega⟩
    rw [if_pos (by simp only [decide_eq_true_eq]; omega), at_int rfl hax]
    simp only [Option.bind_some]
    rw [chk_pos (by omega), hb, w64 (by omega) (by omega), show ((b : Int)).tmod ((1 + a1.length % 16 : Nat) : Int) = ((b % (1 + a1.length % 16) : Nat) : Int) from rfl]
    exact hstep _ (Nat.mod_lt _ (by omega))
  · rw [if_neg (by simp only [decide_eq_true_eq]; omega), show ((k : Int)).tmod ((1 + a1.length % 16 : Nat) : Int) = ((k % (1 + a1.length % 16) : Nat) : Int) from rfl]
    exact hstep _ (Nat.mod_lt _ (by omega))

theorem parted_loop {a1 : List Int} (ha : ∀ x ∈ a1, 0 ≤ x ∧ x < 256) (hl : a1.length < 4611686018427387904) {s : List S30} (hs : Srt bef s) (hsl : s.length ≤ 100) : ∀ (m k : Nat) (R : List (List S30)), k + m = s.length →
    R.length = 1 + a1.length % 16 → Ok R → R.flatten.Perm (s.take k) →
    ∃ R', loop (fun t : List (List S30) × Int => law09_MergeParted_l2 a1 s t.1 t.2) (R, (k : Int)) = some R' ∧ R'.length = 1 + a1.length % 16 ∧ Ok R' ∧ R'.flatten.Perm s
  | 0, k, R, hk, hR, hok, hp => by
    refine ⟨R, loop_end ?_, hR, hok, ?_⟩
    · show law09_MergeParted_l2 a1 s R (k : Int) = _
      unfold law09_MergeParted_l2
      rw [if_neg (by simp only [decide_eq_true_eq]; omega)]
    · rwa [List.take_of_length_le (by omega)] at hp
  | m + 1, k, R, hk, hR, hok, hp => by
    obtain ⟨R', h1, h2, h3, h4⟩ := parted_step ha hl hs hsl (by omega) hR hok hp
    obtain ⟨R2, g1, g2⟩ := parted_loop ha hl hs hsl m (k + 1) R' (by omega) h2 h3 h4
    exact ⟨R2, (loop_nxt (b := fun t : List (List S30) × Int => law09_MergeParted_l2 a1 s t.1 t.2) h1).trans g1, g2⟩

theorem MergeParted (a0 : List S30) (a1 : List Int) (h0 : gL 48 g30 a0) (h1 : gL 1 (gI .u8) a1) : law09_MergeParted a0 a1 = some true := by
  have ha : ∀ x ∈ a1, 0 ≤ x ∧ x < 256 := fun x hx => by
    have := h1.2 x hx
    unfold gI Lit.wf at this
    simp only [Bool.and_eq_true, decide_eq_true_eq] at this
    exact ⟨this.1, Int.lt_of_le_of_lt this.2 (by decide)⟩
  have hj : law09_MergeParted_j1 a0 a1 true = some true := by
    unfold law09_MergeParted_j1; rw [if_pos rfl, awake_eq]; rfl
  unfold law09_MergeParted
  rw [awake_eq]
  simp only [Option.bind_some]
  rw [if_neg (by simp)]
  by_cases hl : 100 < a0.length
  · rw [show decide (100 < (a0.length : Int)) = true by simp; omega, hj]
  rw [show decide (100 < (a0.length : Int)) = false by simp; omega]
  unfold law09_MergeParted_j1
  have hl1 : a1.length < 4611686018427387904 := by
    have := h1.1
    unfold reachBytes at this
    omega
  rw [if_neg (by simp), Sort_eq a0 (by omega)]
  simp only [Option.bind_some]
  have hs := sortL_srt bef_swo a0
  have hsl := sortL_length (lt := bef) a0
  generalize sortL bef a0 = s at hs hsl ⊢
  have hn : IntKind.i64.wrap (1 + ((a1.length : Int).tmod 16)) = ((1 + a1.length % 16 : Nat) : Int) := by
    rw [show ((a1.length : Int).tmod 16) = ((a1.length % 16 : Nat) : Int) from rfl, w64 (by omega) (by omega)]
    omega
  rw [hn, chk_pos (by omega), Int.toNat_natCast]
  have hfl0 : ∀ n : Nat, (List.replicate n ([] : List S30)).flatten = [] := by
    intro n
    induction n with
    | zero => rfl
    | succ n ih => rw [List.replicate_succ, List.flatten_cons, ih]; rfl
  obtain ⟨R, g1, g2, g3, g4⟩ := parted_loop ha hl1 hs (by omega) s.length 0 (List.replicate (1 + a1.length % 16) []) (by omega) (by simp) (fun r hr => by rw [List.eq_of_mem_replicate hr]; exact List.Pairwise.nil) (by rw [hfl0]; simp)
  rw [show ((0 : Nat) : Int) = 0 from rfl] at g1
  rw [g1]
  simp only [Option.bind_some]
  unfold law09_MergeParted_x2_0 law09_MergeParted_b1
  have hfl := g4.length_eq
  have hrl : ∀ r ∈ R, r.length ≤ 100 := fun r hr => by
    have := List.Sublist.length_le (List.sublist_flatten_of_mem hr)
    omega
  rcases All_eq R (fun r hr => by have := hrl r hr; omega) (by omega) (by omega) with ⟨h, _⟩ | ⟨_, _, h, _⟩ | ⟨_, _, _, hA⟩
  · omega
  · exact absurd g3 h
  rw [hA]
  have hm := sortL_srt bef_swo R.flatten
  have hmp : (sortL bef R.flatten).Perm s := (sortL_perm _).trans g4
  have hml := hmp.length_eq
  generalize sortL bef R.flatten = m at hm hmp hml ⊢
  simp only [Option.bind_some]
  rw [if_neg (by simp), show ((m.length : Int) != (s.length : Int)) = false by simp; omega]
  unfold law09_MergeParted_j2
  rw [if_neg (by simp)]
  have := loop_to (b := fun t : Int => law09_MergeParted_l1 s (m, 0) t) (fun k => (k : Int)) (t := Sum.inl ()) s.length (fun k hk => by
    have hx := List.getElem?_eq_getElem hk
    have hy := List.getElem?_eq_getElem (l := m) (i := k) (by omega)
    have b1 := alike bef_swo hs hm hmp.symm hx hy
    have b2 := alike bef_swo hm hs hmp hy hx
    show law09_MergeParted_l1 s (m, 0) (k : Int) = _
    unfold law09_MergeParted_l1
    rw [if_pos (by simp only [decide_eq_true_eq]; omega), at_int rfl hx, at_int rfl hy]
    simp only [Option.bind_some]
    rw [Before_eq, b1]
    simp only [Option.bind_some]
    rw [if_neg (by simp), Before_eq, b2]
    simp only [Option.bind_some]
    unfold law09_MergeParted_j3
    rw [if_neg (by simp), w64 (by omega) (by omega)]
    rfl) (by
    show law09_MergeParted_l1 s (m, 0) (s.length : Int) = _
    unfold law09_MergeParted_l1
    rw [if_neg (by simp)])
  rw [show ((0 : Nat) : Int) = 0 from rfl] at this
  rw [this]
  rfl
end Go.Proofs.Ytpanacifejpjhaa.P
