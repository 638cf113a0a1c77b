/- MergeKeeps, in plain words. -/
import Derived.Test.YtpanacifejpjhaaPe
import Derived.Test.YtpanacifejpjhaaDe
namespace Go.Proofs.Ytpanacifejpjhaa.P
open Go Go.RowKit Go.Proofs.Ytpanacifejpjhaa.E Go.Proofs.Ytpanacifejpjhaa.M
set_option linter.unusedVariables false

theorem Bits_some (a : Nat) : ∃ v, r01_Bits a = some v := by
  unfold r01_Bits r01_Bits_j1
  split <;> split <;> exact ⟨_, rfl⟩
theorem Same_self (x : S30) : r06_Same x x = some true := by
  unfold r06_Same r01_Same
  obtain ⟨v, hv⟩ := Bits_some x.f4
  simp [hv]
theorem SameAll_self (l : List S30) (h : l.length < 2 ^ 62) : r06_SameAll l l = some true := by
  unfold r06_SameAll
  rw [if_neg (by simp)]
  have := loop_to (b := fun s => r06_SameAll_l1 l l s) (fun k => (k : Int)) (t := .inl ()) l.length (fun k hk => by
    have hx : l[k]? = some (l[k]'hk) := List.getElem?_eq_getElem hk
    unfold r06_SameAll_l1
    rw [if_pos (by simp; omega), at_int rfl hx]
    simp only [Option.bind_some, Same_self]
    rw [if_neg (by simp), w64 (by omega) (by omega)]
    rfl) (by
    unfold r06_SameAll_l1
    rw [if_neg (by simp)])
  rw [show (0 : Int) = ((0 : Nat) : Int) from rfl, this]
  rfl

def sorts (R : List (List S30)) : List (List S30) := R.map (sortL bef)
theorem sorts_ok (R : List (List S30)) : Ok (sorts R) := by
  intro r hr
  obtain ⟨x, _, rfl⟩ := List.mem_map.1 hr
  exact sortL_srt bef_swo x
theorem sorts_len (R : List (List S30)) : ∀ r ∈ sorts R, ∃ x ∈ R, r.length = x.length := by
  intro r hr
  obtain ⟨x, hx, rfl⟩ := List.mem_map.1 hr
  exact ⟨x, hx, sortL_length x⟩
theorem sorts_flat : ∀ (R : List (List S30)), (sorts R).flatten.length = R.flatten.length
  | [] => rfl
  | r :: R => by
    have := sorts_flat R
    simp only [sorts, List.map_cons, List.flatten_cons, List.length_append, sortL_length] at this ⊢
    omega

/-- all runs sorted, a run at a time -/
theorem sorted_step (R : List (List S30)) (h : ∀ r ∈ R, r.length ≤ 100) {k : Nat} (hk : k < R.length) : ∃ x, R[k]? = some x ∧ x.length ≤ 100 ∧ r06_Sort x = some (sortL bef x) ∧ sorts (R.take (k + 1)) = sorts (R.take k) ++ [sortL bef x] := by
  have hx : R[k]? = some (R[k]'hk) := List.getElem?_eq_getElem hk
  have hl := h _ (List.getElem_mem hk)
  refine ⟨_, hx, hl, Sort_eq _ (by omega), ?_⟩
  unfold sorts
  rw [List.take_add_one, hx, List.map_append]
  rfl

theorem few_ok {R : List (List S30)} (h : gL 24 (gL 48 g30) R) : R.length < 2 ^ 62 ∧ ∀ r ∈ R, r.length < 2 ^ 60 :=
  ⟨by have := h.1; unfold reachBytes at this; omega, fun r hr => by have := (h.2 r hr).1; unfold reachBytes at this; omega⟩

theorem MergeKeeps (a0 : List (List S30)) (h : gL 24 (gL 48 g30) a0) : law09_MergeKeeps a0 = some true := by
  obtain ⟨hlen, hl⟩ := few_ok h
  have hawake : law09_MergeKeeps_j1 a0 true = some true := by
    unfold law09_MergeKeeps_j1; rw [if_pos rfl, awake_eq]; rfl
  unfold law09_MergeKeeps
  rw [awake_eq]
  simp only [Option.bind_some]
  rw [if_neg (by simp)]
  obtain ⟨b, hb, hbt⟩ := few_eq a0 hlen hl
  rw [hb]
  simp only [Option.bind_some]
  cases b with
  | false => exact hawake
  | true =>
    obtain ⟨h40, h100, hfl⟩ := hbt rfl
    rw [if_neg (by simp)]
    by_cases h1 : a0.length < 1
    · rw [if_pos (by simp; omega), hawake]
    rw [if_neg (by simp; omega)]
    by_cases h2 : 16 < a0.length
    · rw [show decide (16 < (a0.length : Int)) = true by simp; omega, hawake]
    rw [show decide (16 < (a0.length : Int)) = false by simp; omega]
    unfold law09_MergeKeeps_j1
    rw [if_neg (by simp)]
    have hs := loop_to (b := fun s : List (List S30) × List (List S30) × Int => law09_MergeKeeps_l3 a0 s.1 s.2.1 s.2.2) (fun k => (sorts (a0.take k), sorts (a0.take k), (k : Int))) (t := (sorts a0, sorts a0)) a0.length (fun k hk => by
      obtain ⟨x, hx, hxl, hxs, hst⟩ := sorted_step a0 h100 hk
      show law09_MergeKeeps_l3 a0 (sorts (a0.take k)) (sorts (a0.take k)) (k : Int) = _
      have hsl : (sorts (a0.take k)).length = k := by unfold sorts; simp; omega
      have hyl : (sortL bef x).length = x.length := sortL_length x
      unfold law09_MergeKeeps_l3
      rw [if_pos (by simp; omega), at_int rfl hx]
      simp only [Option.bind_some, hxs]
      rw [chk_pos (by simp; omega), chk_pos (by simp; omega), chk_pos (by simp; omega), w64 (by omega) (by omega), hst]
      rfl) (by
      show law09_MergeKeeps_l3 a0 (sorts (a0.take a0.length)) (sorts (a0.take a0.length)) (a0.length : Int) = _
      unfold law09_MergeKeeps_l3
      rw [if_neg (by simp), List.take_length])
    rw [show (([], [], 0) : List (List S30) × List (List S30) × Int) = (fun k => (sorts (a0.take k), sorts (a0.take k), ((k : Nat) : Int))) 0 from rfl, hs]
    simp only [Option.bind_some]
    unfold law09_MergeKeeps_x3_0 law09_MergeKeeps_b1
    have hsl : (sorts a0).length = a0.length := by unfold sorts; simp
    have hsr : ∀ r ∈ sorts a0, r.length ≤ 100 := fun r hr => by
      obtain ⟨x, hx, e⟩ := sorts_len a0 r hr
      rw [e]; exact h100 x hx
    rcases All_eq (sorts a0) (fun r hr => by have := hsr r hr; omega) (by omega) (by rw [sorts_flat]; omega) with ⟨hq, _⟩ | ⟨_, _, hno, _⟩ | ⟨_, _, _, hA⟩
    · omega
    · exact absurd (sorts_ok a0) hno
    · rw [hA]
      simp only [Option.bind_some]
      have hml : (sortL bef (sorts a0).flatten).length ≤ 300 := by rw [sortL_length, sorts_flat]; exact hfl
      obtain ⟨t, ht, _⟩ := loop_good (b := fun s : List S30 × Int => law09_MergeKeeps_l2 s.1 s.2) (s := (sortL bef (sorts a0).flatten, 0)) (fun s => ∃ n : Nat, s.2 = n ∧ s.1.length ≤ 300) (fun s => (s.1.length - s.2).toNat) (fun _ => True) ⟨0, rfl, hml⟩ (by
        rintro ⟨l, q⟩ ⟨n, hq, hll⟩
        simp only at hq hll
        subst hq
        show (∃ s', law09_MergeKeeps_l2 l (n : Int) = some (.inl s') ∧ _) ∨ ∃ t, law09_MergeKeeps_l2 l (n : Int) = some (.inr t) ∧ _
        unfold law09_MergeKeeps_l2
        by_cases hnl : n < l.length
        · rw [if_pos (by simp; omega), at_int rfl (List.getElem?_eq_getElem hnl)]
          simp only [Option.bind_some]
          refine .inl ⟨_, rfl, ⟨n + 1, ?_, by simpa using hll⟩, ?_⟩
          · simp only; rw [w64 (by omega) (by omega)]; omega
          · simp only [List.length_set, w64 (n := (n : Int) + 1) (by omega) (by omega)]; omega
        · rw [if_neg (by simp; omega)]
          exact .inr ⟨_, rfl, trivial⟩)
      rw [ht]
      simp only [Option.bind_some]
      unfold law09_MergeKeeps_x2_2 law09_MergeKeeps_b2
      have hc := loop_to (b := fun s => law09_MergeKeeps_l1 (sorts a0) (sorts a0) s) (fun k => (k : Int)) (t := .inl ()) (sorts a0).length (fun k hk => by
        have hx : (sorts a0)[k]? = some ((sorts a0)[k]'hk) := List.getElem?_eq_getElem hk
        unfold law09_MergeKeeps_l1
        rw [if_pos (by simp; omega), at_int rfl hx]
        simp only [Option.bind_some]
        rw [SameAll_self _ (by have := hsr _ (List.getElem_mem hk); omega)]
        simp only [Option.bind_some]
        rw [if_neg (by simp), w64 (by omega) (by omega)]
        rfl) (by
        unfold law09_MergeKeeps_l1
        rw [if_neg (by simp)])
      rw [show (0 : Int) = ((0 : Nat) : Int) from rfl, hc]
      rfl
end Go.Proofs.Ytpanacifejpjhaa.P
