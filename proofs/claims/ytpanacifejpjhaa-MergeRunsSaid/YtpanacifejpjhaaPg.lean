/- MergeRuns, in plain words. -/
import Derived.Test.YtpanacifejpjhaaPf
import Derived.Test.YtpanacifejpjhaaDd
namespace Go.Proofs.Ytpanacifejpjhaa.P
open Go Go.RowKit Go.Proofs.Ytpanacifejpjhaa.E Go.Proofs.Ytpanacifejpjhaa.M
set_option linter.unusedVariables false

/-- what has been taken of the runs: of run j so many -/
def Taken (S R : List (List S30)) (at' : List Int) : Prop := R.length = S.length ∧ at'.length = S.length ∧ ∀ (j : Nat) (s : List S30), S[j]? = some s → ∃ n : Nat, n ≤ s.length ∧ at'[j]? = some (n : Int) ∧ R[j]? = some (s.drop n)

theorem round_eq {S R : List (List S30)} (hS : S.length ≤ 16) (hSl : ∀ s ∈ S, s.length ≤ 100) {nd : List Int} {W node : Nat → Nat} (hT : TInv R nd W node) {at' : List Int} (hA : Taken S R at') (hok : Ok R) {want : List S30} {k : Nat} (hk : k < want.length) (hwl : want.length ≤ 300)
    (hw : want.drop k = sortL bef R.flatten) (a0 : List (List S30)) (h0 : a0.length = S.length) :
    ∃ R' nd' W' node' at'', law09_MergeRuns_l1 a0 S want (some ⟨R, nd⟩) at' (k : Int) = some (.inl (some ⟨R', nd'⟩, at'', ((k + 1 : Nat) : Int))) ∧ TInv R' nd' W' node' ∧ Taken S R' at'' ∧ Ok R' ∧ want.drop (k + 1) = sortL bef R'.flatten := by
  unfold law09_MergeRuns_l1
  rw [if_pos (by simp; omega)]
  have hwk : want[k]? = some (want[k]'hk) := List.getElem?_eq_getElem hk
  rcases Next_eq hT with ⟨he, _⟩ | ⟨w, e, t, nd2, W2, node2, hw2, hwe, hmin, hN, hT2⟩
  · rw [flat_nil he, List.drop_eq_getElem_cons hk] at hw
    simp [sortL] at hw
    omega
  obtain ⟨hsort, hok2⟩ := take_sort hok hwe hmin
  rw [hsort, List.drop_eq_getElem_cons hk] at hw
  injection hw with hwe2 hw3
  rw [hN]
  simp only [Option.bind_some]
  rw [if_neg (by simp), if_neg (by simp), if_neg (by rw [decide_eq_true_eq]; have := hA.1; omega)]
  have hws : w < S.length := by have := hA.1; omega
  have hsw : S[w]? = some (S[w]'hws) := List.getElem?_eq_getElem hws
  obtain ⟨n, hn, han, hrn⟩ := hA.2.2 w _ hsw
  rw [hwe] at hrn
  have hdr : (S[w]'hws).drop n = e :: t := (Option.some.inj hrn).symm
  have hnl : n < (S[w]'hws).length := by
    rcases Nat.lt_or_ge n (S[w]'hws).length with h | h
    · exact h
    · rw [List.drop_eq_nil_of_le h] at hdr; cases hdr
  rw [List.drop_eq_getElem_cons hnl] at hdr
  injection hdr with hde hdt
  have hse : (S[w]'hws)[n]? = some e := by rw [List.getElem?_eq_getElem hnl, hde]
  rw [at_int rfl han, at_int rfl hsw]
  simp only [Option.bind_some]
  rw [if_neg (by rw [decide_eq_true_eq]; omega), at_int rfl hse]
  simp only [Option.bind_some, Same_self]
  rw [if_neg (by simp), at_int rfl hwk, hwe2]
  simp only [Option.bind_some, Same_self]
  unfold law09_MergeRuns_j4
  rw [if_neg (by simp)]
  have hl2 := loop_to (b := fun s => law09_MergeRuns_l2 S at' (e, (w : Int), true, some ⟨R.set w t, nd2⟩) s) (fun k => (k : Int)) (t := .inl ()) w (fun j hj => by
    unfold law09_MergeRuns_l2
    have hsj : S[j]? = some (S[j]'(by omega)) := List.getElem?_eq_getElem (by omega)
    obtain ⟨m, hm, ham, hrm⟩ := hA.2.2 j _ hsj
    rw [if_pos (by simp only [decide_eq_true_eq]; omega), at_int rfl ham, at_int rfl hsj]
    simp only [Option.bind_some]
    unfold law09_MergeRuns_j5
    have hj64 : IntKind.i64.wrap ((j : Int) + 1) = ((j + 1 : Nat) : Int) := by rw [w64 (by omega) (by omega)]; omega
    by_cases hml : m < (S[j]'(by omega)).length
    · rw [if_pos (by rw [decide_eq_true_eq]; omega), at_int rfl (List.getElem?_eq_getElem hml)]
      simp only [Option.bind_some, Before_eq]
      have h := hmin j (by omega) (by omega)
      unfold ahd cmpO hd at h
      rw [hwe, hrm, List.drop_eq_getElem_cons hml] at h
      simp only [Option.bind_some, List.head?_cons, Bool.or_eq_true, Bool.and_eq_true, Bool.not_eq_true', decide_eq_true_eq] at h
      have hb : bef e ((S[j]'(by omega))[m]'hml) = true := by
        rcases h with h | ⟨_, h⟩
        · exact h
        · omega
      rw [hb, hj64]
      rfl
    · rw [if_neg (by rw [decide_eq_true_eq]; omega), if_neg (by simp), hj64]) (by
    unfold law09_MergeRuns_l2
    rw [if_neg (by simp)])
  rw [show (0 : Int) = ((0 : Nat) : Int) from rfl, hl2]
  simp only [Option.bind_some]
  unfold law09_MergeRuns_x2_4 law09_MergeRuns_b3
  simp only
  rw [at_int rfl han]
  simp only [Option.bind_some, Int.toNat_natCast]
  have hnb : (S[w]'hws).length ≤ 100 := hSl _ (List.getElem_mem hws)
  rw [w64 (n := (n : Int) + 1) (by omega) (by omega), w64 (n := (k : Int) + 1) (by omega) (by omega)]
  refine ⟨_, nd2, W2, node2, at'.set w ((n : Int) + 1), rfl, hT2, ⟨by simp [hA.1], by simp [hA.2.1], fun j s hs => ?_⟩, hok2, hw3⟩
  obtain ⟨m, hm, ham, hrm⟩ := hA.2.2 j s hs
  by_cases hjw : j = w
  · subst hjw
    rw [hsw] at hs
    injection hs with hs
    subst hs
    refine ⟨n + 1, hnl, ?_, ?_⟩
    · rw [List.getElem?_set_self (by have := hA.2.1; omega)]; rfl
    · rw [List.getElem?_set_self (by omega), hdt]
  · exact ⟨m, hm, by rw [List.getElem?_set_ne (Ne.symm hjw)]; exact ham, by rw [List.getElem?_set_ne (Ne.symm hjw)]; exact hrm⟩

theorem SameAll_eq {l m : List S30} (h : l = m) (hl : l.length < 2 ^ 62) : r06_SameAll l m = some true := h ▸ SameAll_self l hl

theorem MergeRuns (a0 : List (List S30)) (h : gL 24 (gL 48 g30) a0) : law09_MergeRuns a0 = some true := by
  obtain ⟨hlen, hl⟩ := few_ok h
  have hawake : law09_MergeRuns_j1 a0 true = some true := by
    unfold law09_MergeRuns_j1; rw [if_pos rfl, awake_eq]; rfl
  unfold law09_MergeRuns
  rw [awake_eq]
  simp only [Option.bind_some]
  rw [if_neg (by simp)]
  obtain ⟨b, hb, hbt⟩ := few_eq a0 hlen hl
  rw [hb]
  simp only [Option.bind_some]
  cases b with
  | false => exact hawake
  | true =>
    obtain ⟨h40, h100, hfl⟩ := hbt rfl
    unfold law09_MergeRuns_j1
    rw [if_neg (by simp)]
    have hs := loop_to (b := fun s : List (List S30) × List S30 × Int => law09_MergeRuns_l3 a0 s.1 s.2.1 s.2.2) (fun k => (sorts (a0.take k), (sorts (a0.take k)).flatten, (k : Int))) (t := (sorts a0, (sorts a0).flatten)) a0.length (fun k hk => by
      obtain ⟨x, hx, hxl, hxs, hst⟩ := sorted_step a0 h100 hk
      show law09_MergeRuns_l3 a0 (sorts (a0.take k)) (sorts (a0.take k)).flatten (k : Int) = _
      have hsl : (sorts (a0.take k)).length = k := by unfold sorts; simp; omega
      have hyl : (sortL bef x).length = x.length := sortL_length x
      have hfk : (sorts (a0.take k)).flatten.length ≤ 300 := by
        rw [sorts_flat]
        have : a0.flatten = (a0.take k).flatten ++ (a0.drop k).flatten := by rw [← List.flatten_append, List.take_append_drop]
        rw [this, List.length_append] at hfl
        omega
      unfold law09_MergeRuns_l3
      rw [if_pos (by simp; omega), at_int rfl hx]
      simp only [Option.bind_some, hxs]
      rw [chk_pos (by simp; omega), chk_pos (by omega), w64 (by omega) (by omega), hst]
      simp) (by
      show law09_MergeRuns_l3 a0 (sorts (a0.take a0.length)) (sorts (a0.take a0.length)).flatten (a0.length : Int) = _
      unfold law09_MergeRuns_l3
      rw [if_neg (by simp), List.take_length])
    rw [show (([], [], 0) : List (List S30) × List S30 × Int) = (fun k => (sorts (a0.take k), (sorts (a0.take k)).flatten, ((k : Nat) : Int))) 0 from rfl, hs]
    simp only [Option.bind_some]
    unfold law09_MergeRuns_x3_0 law09_MergeRuns_b1
    have hsl : (sorts a0).length = a0.length := by unfold sorts; simp
    have hsr : ∀ r ∈ sorts a0, r.length ≤ 100 := fun r hr => by
      obtain ⟨x, hx, e⟩ := sorts_len a0 r hr
      rw [e]; exact h100 x hx
    have hsr' : ∀ r ∈ sorts a0, r.length < 2 ^ 60 := fun r hr => by have := hsr r hr; omega
    have hsf : (sorts a0).flatten.length ≤ 300 := by rw [sorts_flat]; exact hfl
    rcases New_eq (sorts a0) hsr' (by omega) with ⟨hq, hN⟩ | ⟨_, _, hno, _⟩ | ⟨h1, h2, hok, nd, W, node, hN, hT⟩
    · rcases All_eq (sorts a0) hsr' (by omega) (by omega) with ⟨_, hA⟩ | ⟨_, _, hno, _⟩ | ⟨_, _, _, _⟩
      · rw [hN, hA]
        simp only [Option.bind_some]
        have : law09_MergeRuns_j2 a0 (sorts a0) (sorts a0).flatten (none, 1) ([], 1) true = some true := by
          unfold law09_MergeRuns_j2; rfl
        by_cases h1 : a0.length < 1
        · rw [if_pos (by simp; omega), this]
        · rw [if_neg (by simp; omega), show decide (16 < (a0.length : Int)) = true by simp; omega, this]
      · exact absurd (sorts_ok a0) hno
      · omega
    · exact absurd (sorts_ok a0) hno
    · rcases All_eq (sorts a0) hsr' (by omega) (by omega) with ⟨hq, _⟩ | ⟨_, _, hno, _⟩ | ⟨_, _, _, hA⟩
      · omega
      · exact absurd hok hno
      · rw [hN, hA]
        simp only [Option.bind_some]
        rw [if_neg (by simp; omega), show decide (16 < (a0.length : Int)) = false by simp; omega]
        unfold law09_MergeRuns_j2
        rw [if_neg (by simp), Sort_eq _ (by omega)]
        simp only [Option.bind_some]
        have hwl : (sortL bef (sorts a0).flatten).length ≤ 300 := by rw [sortL_length]; exact hsf
        rw [if_neg (by simp), if_neg (by simp), SameAll_self _ (by omega)]
        simp only [Option.bind_some]
        unfold law09_MergeRuns_j3
        rw [if_neg (by simp), chk_pos (by omega)]
        obtain ⟨t, ht, R', nd', W', node', rfl, hT', hR'⟩ := loop_good (b := fun s : Option S48 × List Int × Int => law09_MergeRuns_l1 a0 (sorts a0) (sortL bef (sorts a0).flatten) s.1 s.2.1 s.2.2) (s := (some ⟨sorts a0, nd⟩, List.replicate (a0.length : Int).toNat 0, 0))
          (fun s => ∃ R' nd' W' node' at' k, s = (some ⟨R', nd'⟩, at', ((k : Nat) : Int)) ∧ TInv R' nd' W' node' ∧ Taken (sorts a0) R' at' ∧ Ok R' ∧ k ≤ (sortL bef (sorts a0).flatten).length ∧ (sortL bef (sorts a0).flatten).drop k = sortL bef R'.flatten)
          (fun s => ((sortL bef (sorts a0).flatten).length - s.2.2).toNat)
          (fun t => ∃ R' nd' W' node', t = .inl (some ⟨R', nd'⟩) ∧ TInv R' nd' W' node' ∧ R'.flatten = [])
          ⟨sorts a0, nd, W, node, _, 0, rfl, hT, ⟨rfl, by simp [hsl], fun j s hs => ⟨0, Nat.zero_le _, by
            have := (List.getElem?_eq_some_iff.1 hs).1
            rw [List.getElem?_replicate, if_pos (by simp; omega)]; rfl, by simpa using hs⟩⟩, hok, Nat.zero_le _, by simp⟩ (by
            rintro s ⟨R', nd', W', node', at', k, rfl, hT', hA', hok', hk, hw⟩
            by_cases hkl : k < (sortL bef (sorts a0).flatten).length
            · obtain ⟨R2, nd2, W2, node2, at2, hs, hT2, hA2, hok2, hw2⟩ := round_eq (by omega) hsr hT' hA' hok' hkl hwl hw a0 hsl.symm
              exact .inl ⟨_, hs, ⟨R2, nd2, W2, node2, at2, k + 1, rfl, hT2, hA2, hok2, hkl, hw2⟩, by simp only; omega⟩
            · refine .inr ⟨_, ?_, R', nd', W', node', rfl, hT', ?_⟩
              · show law09_MergeRuns_l1 _ _ _ _ _ _ = _
                unfold law09_MergeRuns_l1
                rw [if_neg (by rw [decide_eq_true_eq]; simp only; omega)]
              · rw [List.drop_eq_nil_of_le (by omega)] at hw
                have := sortL_length (lt := bef) R'.flatten
                rw [← hw] at this
                exact List.eq_nil_of_length_eq_zero this.symm)
        rw [ht]
        simp only [Option.bind_some]
        unfold law09_MergeRuns_x1_2 law09_MergeRuns_b2
        rcases Next_eq hT' with ⟨_, hN'⟩ | ⟨w, e, t, nd2, W2, node2, hw2, hwe, _, _, _⟩
        · rw [hN']
          simp only [Option.bind_some]
          rw [hN']
          rfl
        · have := flat_set hwe
          rw [hR'] at this
          simp at this
end Go.Proofs.Ytpanacifejpjhaa.P
