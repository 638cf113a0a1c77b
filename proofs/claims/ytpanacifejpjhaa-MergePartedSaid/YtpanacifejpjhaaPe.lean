/- MergeOrder, in plain words. -/
import Derived.Test.YtpanacifejpjhaaPd
import Derived.Test.YtpanacifejpjhaaOp
namespace Go.Proofs.Ytpanacifejpjhaa.P
open Go Go.RowKit Go.Proofs.Ytpanacifejpjhaa.E Go.Proofs.Ytpanacifejpjhaa.M
set_option linter.unusedVariables false

theorem few_eq (R : List (List S30)) (hb : R.length < 2 ^ 62) (hl : ∀ r ∈ R, r.length < 2 ^ 60) : ∃ b, law09_few R = some b ∧ (b = true → R.length ≤ 40 ∧ (∀ r ∈ R, r.length ≤ 100) ∧ R.flatten.length ≤ 300) := by
  unfold law09_few
  obtain ⟨t, ht, hR⟩ := loop_good (b := fun s : Int × Int => law09_few_l1 R s.1 s.2) (s := (0, 0))
    (fun s => ∃ n : Nat, s = (((R.take n).flatten.length : Int), (n : Int)) ∧ n ≤ R.length ∧ (∀ r ∈ R.take n, r.length ≤ 100) ∧ (R.take n).flatten.length ≤ 300) (fun s => (R.length - s.2).toNat)
    (fun t => t = .inr false ∨ t = .inl () ∧ (∀ r ∈ R, r.length ≤ 100) ∧ R.flatten.length ≤ 300)
    ⟨0, by simp, Nat.zero_le _, fun r h => by simp at h, by simp⟩ (by
      rintro s ⟨n, rfl, hn, hr, hf⟩
      show (∃ s', law09_few_l1 R ((R.take n).flatten.length : Int) (n : Int) = some (.inl s') ∧ _) ∨ ∃ t, law09_few_l1 R ((R.take n).flatten.length : Int) (n : Int) = some (.inr t) ∧ _
      unfold law09_few_l1
      by_cases hnl : n < R.length
      · have h1 : R[n]? = some (R[n]'hnl) := List.getElem?_eq_getElem hnl
        rw [if_pos (by simp; omega), at_int rfl h1]
        simp only [Option.bind_some]
        unfold law09_few_j1
        by_cases h100 : 100 < (R[n]'hnl).length
        · rw [if_pos (by simp; omega), if_pos rfl]
          exact .inr ⟨_, rfl, .inl rfl⟩
        rw [if_neg (by simp; omega)]
        by_cases h200 : 200 < (R.take n).flatten.length
        · rw [if_pos (by rw [decide_eq_true_eq]; omega)]
          exact .inr ⟨_, rfl, .inl rfl⟩
        rw [if_neg (by rw [decide_eq_true_eq]; omega), at_int rfl h1]
        simp only [Option.bind_some]
        have hfl : (R.take (n + 1)).flatten.length = (R.take n).flatten.length + (R[n]'hnl).length := by
          rw [List.take_add_one, h1]; simp only [Option.toList_some, List.flatten_append, List.length_append, List.flatten_cons, List.flatten_nil, List.length_nil]; omega
        refine .inl ⟨_, rfl, ⟨n + 1, ?_, by omega, fun r hr' => ?_, by omega⟩, by simp only [w64 (n := (n : Int) + 1) (by omega) (by omega)]; omega⟩
        · rw [w64 (by omega) (by omega), w64 (by omega) (by omega), hfl]; simp only [Int.natCast_add]; rfl
        · rw [List.take_add_one, h1] at hr'
          simp only [Option.toList_some, List.mem_append, List.mem_singleton] at hr'
          rcases hr' with hr' | rfl
          · exact hr r hr'
          · omega
      · rw [if_neg (by simp; omega)]
        obtain rfl : n = R.length := by omega
        rw [List.take_length] at hr hf
        exact .inr ⟨_, rfl, .inr ⟨rfl, hr, hf⟩⟩)
  rw [ht]
  simp only [Option.bind_some]
  rcases hR with rfl | ⟨rfl, hr, hf⟩
  · exact ⟨false, rfl, fun h => by cases h⟩
  · refine ⟨_, rfl, fun h => ⟨?_, hr, hf⟩⟩
    simp at h; omega

theorem awake_eq : law09_awake = some true := by
  unfold law09_awake
  have hs : sortL bef (([[⟨0, 0, 0, [97], 0⟩, ⟨0, 0, 0, [99], 0⟩], [⟨0, 0, 0, [98], 0⟩]] : List (List S30)).flatten) = [⟨0, 0, 0, [97], 0⟩, ⟨0, 0, 0, [98], 0⟩, ⟨0, 0, 0, [99], 0⟩] := rfl
  rcases All_eq [[⟨0, 0, 0, [97], 0⟩, ⟨0, 0, 0, [99], 0⟩], [⟨0, 0, 0, [98], 0⟩]] (by simp) (by simp) (by simp) with ⟨h, _⟩ | ⟨_, _, h, _⟩ | ⟨_, _, _, h⟩
  · simp at h
  · refine absurd (fun r hr => ?_) h
    simp only [List.mem_cons, List.not_mem_nil, or_false] at hr
    rcases hr with rfl | rfl
    · exact List.pairwise_cons.2 ⟨fun x hx => by simp at hx; subst hx; rfl, List.pairwise_cons.2 ⟨fun x hx => by simp at hx, List.Pairwise.nil⟩⟩
    · exact List.pairwise_cons.2 ⟨fun x hx => by simp at hx, List.Pairwise.nil⟩
  · rw [h, hs]
    rfl

/-! #### the law -/
theorem ord_run (R : List (List S30)) (i : Nat) {r : List S30} (hr : R[i]? = some r) (hl : r.length < 2 ^ 60) (b0 : Bool) :
    ∃ b, loop (fun s : Bool × Int => law09_MergeOrder_l2 R (i : Int) s.1 s.2) (b0, 1) = some b ∧ (b = true ↔ b0 = true ∧ Srt bef r) := by
  refine loop_good (b := fun s : Bool × Int => law09_MergeOrder_l2 R (i : Int) s.1 s.2) (s := (b0, 1)) (fun s => ∃ n : Nat, s.2 = n ∧ 1 ≤ n ∧ (s.1 = true ↔ b0 = true ∧ ∀ i x y, i + 1 < n → r[i]? = some x → r[i + 1]? = some y → bef y x = false))
    (fun s => (r.length + 1 - s.2).toNat) _ ⟨1, rfl, Nat.le_refl _, by simp⟩ ?_
  rintro ⟨b, q⟩ ⟨n, hq, hn, hb⟩
  simp only at hq hb
  subst hq
  show (∃ s', law09_MergeOrder_l2 R (i : Int) b (n : Int) = some (.inl s') ∧ _) ∨ ∃ t, law09_MergeOrder_l2 R (i : Int) b (n : Int) = some (.inr t) ∧ _
  unfold law09_MergeOrder_l2
  rw [at_int rfl hr]
  simp only [Option.bind_some]
  by_cases hnl : n < r.length
  · have h1 : r[n]? = some (r[n]'hnl) := List.getElem?_eq_getElem hnl
    have h2 : r[n - 1]? = some (r[n - 1]'(by omega)) := List.getElem?_eq_getElem (by omega)
    rw [if_pos (by simp; omega)]
    unfold law09_MergeOrder_b3
    have fin : ∀ b', (b' = true ↔ b = true ∧ bef (r[n]'hnl) (r[n - 1]'(by omega)) = false) → ∃ s', some (Sum.inl (b', IntKind.i64.wrap ((n : Int) + 1))) = some (Sum.inl s' : (Bool × Int) ⊕ Bool) ∧ (∃ m : Nat, s'.2 = m ∧ 1 ≤ m ∧ (s'.1 = true ↔ b0 = true ∧ ∀ i x y, i + 1 < m → r[i]? = some x → r[i + 1]? = some y → bef y x = false)) ∧ (r.length + 1 - s'.2).toNat < ((r.length : Int) + 1 - (n : Int)).toNat := by
      intro b' hb'
      refine ⟨_, rfl, ⟨n + 1, by simp only; rw [w64 (by omega) (by omega)]; omega, by omega, ?_⟩, by simp only [w64 (n := (n : Int) + 1) (by omega) (by omega)]; omega⟩
      simp only
      rw [hb', hb]
      constructor
      · rintro ⟨⟨h3, h4⟩, h5⟩
        refine ⟨h3, fun i x y hi hx hy => ?_⟩
        rcases Nat.lt_or_ge (i + 1) n with h | h
        · exact h4 i x y h hx hy
        · obtain rfl : i + 1 = n := by omega
          rw [h1] at hy; cases hy
          simp only [Nat.add_sub_cancel] at h2 h5
          rw [h2] at hx; cases hx
          exact h5
      · rintro ⟨h3, h4⟩
        exact ⟨⟨h3, fun i x y hi => h4 i x y (by omega)⟩, h4 (n - 1) _ _ (by omega) h2 (by rw [show n - 1 + 1 = n by omega]; exact h1)⟩
    cases b with
    | true =>
      rw [if_pos rfl, at_int rfl h1, at_int (n := n - 1) (by rw [w64 (by omega) (by omega)]; omega) h2]
      simp only [Option.bind_some, Before_eq]
      exact .inl (fin _ (by simp))
    | false =>
      rw [if_neg (by simp)]
      exact .inl (fin _ (by simp))
  · rw [if_neg (by simp; omega)]
    refine .inr ⟨_, rfl, ?_⟩
    rw [hb]
    constructor
    · rintro ⟨h3, h4⟩
      exact ⟨h3, srt_adj bef_swo fun i x y hx hy => h4 i x y (by have := (List.getElem?_eq_some_iff.1 hy).1; omega) hx hy⟩
    · rintro ⟨h3, h4⟩
      exact ⟨h3, fun i x y _ hx hy => srt_get h4 (Nat.lt_succ_self i) hx hy⟩

theorem ord_runs (R : List (List S30)) (hb : R.length < 2 ^ 62) (hl : ∀ r ∈ R, r.length < 2 ^ 60) :
    ∃ b, loop (fun s : Bool × Int => law09_MergeOrder_l1 R s.1 s.2) (true, 0) = some b ∧ (b = true ↔ Ok R) := by
  refine loop_good (b := fun s : Bool × Int => law09_MergeOrder_l1 R s.1 s.2) (s := (true, 0)) (fun s => ∃ n : Nat, s.2 = n ∧ n ≤ R.length ∧ (s.1 = true ↔ ∀ r ∈ R.take n, Srt bef r)) (fun s => (R.length - s.2).toNat) _ ⟨0, rfl, Nat.zero_le _, by simp⟩ ?_
  rintro ⟨b, q⟩ ⟨n, hq, hn, hbb⟩
  simp only at hq hbb
  subst hq
  show (∃ s', law09_MergeOrder_l1 R b (n : Int) = some (.inl s') ∧ _) ∨ ∃ t, law09_MergeOrder_l1 R b (n : Int) = some (.inr t) ∧ _
  unfold law09_MergeOrder_l1
  by_cases hnl : n < R.length
  · have h1 : R[n]? = some (R[n]'hnl) := List.getElem?_eq_getElem hnl
    obtain ⟨b', hb', hbi⟩ := ord_run R n h1 (hl _ (List.getElem_mem hnl)) b
    rw [if_pos (by simp; omega), hb']
    simp only [Option.bind_some]
    unfold law09_MergeOrder_x2_2 law09_MergeOrder_b2
    refine .inl ⟨_, rfl, ⟨n + 1, by simp only; rw [w64 (by omega) (by omega)]; omega, by omega, ?_⟩, by simp only [w64 (n := (n : Int) + 1) (by omega) (by omega)]; omega⟩
    simp only
    rw [hbi, hbb, List.take_add_one, h1]
    simp only [Option.toList_some, List.mem_append, List.mem_singleton]
    constructor
    · rintro ⟨h3, h4⟩ r (hr | rfl)
      · exact h3 r hr
      · exact h4
    · intro h
      exact ⟨fun r hr => h r (.inl hr), h _ (.inr rfl)⟩
  · rw [if_neg (by simp; omega)]
    obtain rfl : n = R.length := by omega
    rw [List.take_length] at hbb
    exact .inr ⟨_, rfl, hbb⟩

theorem MergeOrder (a0 : List (List S30)) (h : gL 24 (gL 48 g30) a0) : law09_MergeOrder a0 = some true := by
  have hlen : a0.length < 2 ^ 62 := by have := h.1; unfold reachBytes at this; omega
  have hl : ∀ r ∈ a0, r.length < 2 ^ 60 := fun r hr => by have := (h.2 r hr).1; unfold reachBytes at this; omega
  have hawake : law09_MergeOrder_j1 a0 true = some true := by
    unfold law09_MergeOrder_j1; rw [if_pos rfl, awake_eq]; rfl
  unfold law09_MergeOrder
  rw [awake_eq]
  simp only [Option.bind_some]
  rw [if_neg (by simp)]
  obtain ⟨b, hb, hbt⟩ := few_eq a0 hlen hl
  rw [hb]
  simp only [Option.bind_some]
  cases b with
  | false => exact hawake
  | true =>
    obtain ⟨h40, h100, hfl⟩ := hbt rfl
    rw [if_neg (by simp)]
    by_cases h1 : a0.length < 1
    · rw [if_pos (by simp; omega), hawake]
    rw [if_neg (by simp; omega)]
    by_cases h2 : 16 < a0.length
    · rw [show decide (16 < (a0.length : Int)) = true by simp; omega, hawake]
    rw [show decide (16 < (a0.length : Int)) = false by simp; omega]
    unfold law09_MergeOrder_j1
    rw [if_neg (by simp)]
    obtain ⟨o, ho, hoi⟩ := ord_runs a0 hlen hl
    rw [ho]
    simp only [Option.bind_some]
    unfold law09_MergeOrder_x1_0 law09_MergeOrder_b1
    rcases New_eq a0 hl hlen with ⟨hq, _⟩ | ⟨_, _, hno, hN⟩ | ⟨_, _, hok, nd, W, node, hN, _⟩
    · omega
    · rcases All_eq a0 hl hlen (by omega) with ⟨hq, _⟩ | ⟨_, _, _, hA⟩ | ⟨_, _, hok, _⟩
      · omega
      · have : o = false := by cases o with | false => rfl | true => exact absurd (hoi.1 rfl) hno
        rw [hN, hA, this]; rfl
      · exact absurd hok hno
    · rcases All_eq a0 hl hlen (by omega) with ⟨hq, _⟩ | ⟨_, _, hno, _⟩ | ⟨_, _, _, hA⟩
      · omega
      · exact absurd hok hno
      · rw [hN, hA, hoi.2 hok]; rfl

end Go.Proofs.Ytpanacifejpjhaa.P
