/- The law FilesArms: the power goes off in the n-th operation. -/
import Derived.Test.YtgjhiojkkjaloaaRg
namespace Go.Proofs.Ytgjhiojkkjaloaa.P
open Go Go.RowKit Go.Proofs.Ytgjhiojkkjaloaa.E Go.Proofs.Ytgjhiojkkjaloaa.M
set_option linter.unusedVariables false

/-- before the i-th of k operations -/
structure AI (k i : Nat) (s : S68) : Prop where
  si : SI i s
  room : s.f1 = 5000
  left : s.f2 = (k : Int) + 1 - i
  off : s.f3 = decide (i = k + 1)
  one : ∃ p t, s.f0 = [⟨[97], p, t⟩] ∧ p.length ≤ i
theorem arms_step {k i : Nat} {s : S68} (h : AI k i s) (hi : i ≤ k) : step s = ⟨s.f0, 5000, (k : Int) - i, decide (i = k), s.f4 + 1⟩ := by
  have := h.left
  unfold step
  rw [h.room, if_pos (by omega), if_pos (by omega), show s.f2 - 1 = (k : Int) - i by omega]
  congr 1
  by_cases e : i = k
  · subst e; simp
  · rw [decide_eq_false e]; simp; omega
theorem arms_look {k i : Nat} {s : S68} (h : AI k i s) (hi : i ≤ k) {n : List UInt8} (hn : formN n = true) : lookS s n = 0 := by
  unfold lookS; rw [if_pos hn, h.off, decide_eq_false (by omega)]; rfl
theorem arms_off {k : Nat} {s : S68} (h : AI k (k + 1) s) {n : List UInt8} (hn : formN n = true) : lookS s n = 9 := by
  unfold lookS; rw [if_pos hn, h.off, decide_eq_true rfl]; rfl
theorem arms_mk {k i : Nat} {s : S68} (h : AI k i s) (hi : i ≤ k) {e : Int} {q : S68} (hq : SI (i + 1) q) {p : List Int} {t : Int} (hp : p.length ≤ i + 1) (he : e = if i < k then 0 else 9) (hs : q = ⟨[⟨[97], p, t⟩], 5000, (k : Int) - i, decide (i = k), s.f4 + 1⟩) : e = (if i < k then 0 else 9) ∧ AI k (i + 1) q := by
  refine ⟨he, hq, by rw [hs], by rw [hs]; simp only; omega, by rw [hs]; simp only; exact decide_eq_decide.2 (by omega), p, t, by rw [hs], hp⟩
theorem arms_app {k i : Nat} {s : S68} (hk : k ≤ 10) (h : AI k i s) (hi : i ≤ k) : (appS s [97] [121]).1 = (if i < k then 0 else 9) ∧ AI k (i + 1) (appS s [97] [121]).2 := by
  obtain ⟨p, t, e, hp⟩ := h.one
  have hs := h.si.app (n := [97]) (p := [121]) (by decide)
  refine arms_mk h hi hs (p := p ++ [121]) (t := t) (by simp; omega) ?_ ?_
  all_goals
    unfold appS
    rw [if_pos (arms_look h hi fa_), if_neg (by rw [e, h.room, used_cons]; rintro (q | ⟨_, q⟩); simp only [List.length_singleton] at q; have : used [] = 0 := rfl; omega; simp at q), arms_step h hi]
  · by_cases c : i = k
    · rw [if_pos (by simpa using c), if_neg (by omega)]
    · rw [if_neg (by simpa using c), if_pos (by omega)]
  · rw [e]; rfl
theorem arms_chg {k i : Nat} {s : S68} (h : AI k i s) (hi : i ≤ k) {f : S73 → List S73} (hs : SI (i + 1) (chgS s [97] f).2) (hf : ∀ p t, s.f0 = [⟨[97], p, t⟩] → ∃ t', f ⟨[97], p, t⟩ = [⟨[97], p, t'⟩]) :
    (chgS s [97] f).1 = (if i < k then 0 else 9) ∧ AI k (i + 1) (chgS s [97] f).2 := by
  obtain ⟨p, t, e, hp⟩ := h.one
  obtain ⟨t', ht'⟩ := hf p t e
  have hg : get s.f0 [97] = some ⟨[97], p, t⟩ := by rw [e]; rfl
  by_cases c : i = k
  · refine arms_mk h hi hs (p := p) (t := t) (by omega) ?_ ?_
    all_goals
      unfold chgS
      rw [if_pos (arms_look h hi fa_), hg, arms_step h hi]
      simp only [if_pos (show decide (i = k) = true by simpa using c)]
    · rw [if_neg (by omega)]
    · rw [e]
  · refine arms_mk h hi hs (p := p) (t := t') (by omega) ?_ ?_
    all_goals
      unfold chgS
      rw [if_pos (arms_look h hi fa_), hg, arms_step h hi]
      simp only [if_neg (show ¬ decide (i = k) = true by simpa using c)]
    · rw [if_pos (by omega)]
    · rw [ht']
theorem arms_ren {k i : Nat} {s : S68} (h : AI k i s) (hi : i ≤ k) : (renS s [97] [97]).1 = (if i < k then 0 else 9) ∧ AI k (i + 1) (renS s [97] [97]).2 := by
  have hs := h.si.ren (a := [97]) (b := [97])
  unfold renS at hs ⊢
  rw [if_pos fa_, if_pos (arms_look h hi fa_)] at hs ⊢
  exact arms_chg h hi hs fun p t e => ⟨t, by rw [e]; rfl⟩
theorem arms_syn {k i : Nat} {s : S68} (h : AI k i s) (hi : i ≤ k) : (synS s [97]).1 = (if i < k then 0 else 9) ∧ AI k (i + 1) (synS s [97]).2 :=
  arms_chg h hi h.si.syn fun p t e => ⟨_, by rw [e]; rfl⟩
theorem arms_b2 {k i : Nat} {s : S68} {e : Int} (hk : k ≤ 10) (hi : i ≤ k) (h : e = (if i < k then 0 else 9) ∧ AI k (i + 1) s) : law05_FilesArms_b2 (k : Int) (i : Int) (some s) e = some (.inl (some s, ((i + 1 : Nat) : Int))) := by
  obtain ⟨he, h⟩ := h
  unfold law05_FilesArms_b2
  have e1 : (e == 0) = decide ((i : Int) < k) := by
    rw [he]
    split
    · rw [decide_eq_true (by omega)]; rfl
    · rw [decide_eq_false (by omega)]; rfl
  have e2 : (!s.f3) = decide ((i : Int) < k) := by
    rw [h.off]
    by_cases c : i = k
    · rw [decide_eq_true (by omega), decide_eq_false (by omega)]; rfl
    · rw [decide_eq_false (by omega), decide_eq_true (by omega)]; rfl
  rw [e1, if_neg (by simp), show files_Store_On (some s) = some (!s.f3) from rfl, e2]
  simp only [Option.bind_some]
  unfold law05_FilesArms_j2
  rw [if_neg (by simp), lt_, w64 (by omega) (by omega)]
  rfl
theorem arms_j1 {k i : Nat} {s : S68} (hk : k ≤ 10) (hi : i ≤ k) (h : AI k i s) (x : Int) : ∃ s', law05_FilesArms_j1 (k : Int) (some s) (i : Int) x = some (.inl (some s', ((i + 1 : Nat) : Int))) ∧ AI k (i + 1) s' := by
  unfold law05_FilesArms_j1
  by_cases c0 : x = 0
  · rw [if_pos (by simpa using c0), h.si.Append (by omega) (by decide)]
    exact ⟨_, arms_b2 hk hi (arms_app hk h hi), (arms_app hk h hi).2⟩
  rw [if_neg (by simpa using c0)]
  by_cases c1 : x = 1
  · rw [if_pos (by simpa using c1), h.si.Sync (by omega) (by decide)]
    exact ⟨_, arms_b2 hk hi (arms_syn h hi), (arms_syn h hi).2⟩
  · rw [if_neg (by simpa using c1), h.si.Rename (by omega) (by decide) (by decide)]
    exact ⟨_, arms_b2 hk hi (arms_ren h hi), (arms_ren h hi).2⟩
theorem arms_l1 {k i : Nat} {s : S68} (kinds : List Int) (hk : k ≤ 10) (hi : i ≤ k) (h1 : 1 ≤ i) (h : AI k i s) : ∃ s', law05_FilesArms_l1 kinds (k : Int) (some s) (i : Int) = some (.inl (some s', ((i + 1 : Nat) : Int))) ∧ AI k (i + 1) s' := by
  unfold law05_FilesArms_l1
  rw [if_pos (by simp only [decide_eq_true_eq]; omega)]
  by_cases c : i ≤ kinds.length
  · rw [if_pos (by simp only [decide_eq_true_eq]; omega), lt_, w64 (by omega) (by omega), at_int (n := i - 1) (by omega) (List.getElem?_eq_getElem (by omega))]
    simp only [Option.bind_some]
    rw [lt_, lt_]
    exact arms_j1 hk hi h _
  · rw [if_neg (by simp only [decide_eq_true_eq]; omega)]
    exact arms_j1 hk hi h _
theorem arms_loop {k : Nat} (kinds : List Int) (hk : k ≤ 10) : ∀ (m i : Nat) (s : S68), i + m = k + 1 → 1 ≤ i → AI k i s → ∃ s', loop (fun q : Option S68 × Int => law05_FilesArms_l1 kinds (k : Int) q.1 q.2) (some s, (i : Int)) = some (.inl (some s')) ∧ AI k (k + 1) s'
  | 0, i, s, hi, h1, h => by
    obtain rfl : i = k + 1 := by omega
    refine ⟨s, loop_end ?_, h⟩
    show law05_FilesArms_l1 kinds (k : Int) (some s) ((k + 1 : Nat) : Int) = _
    unfold law05_FilesArms_l1
    rw [if_neg (by simp only [decide_eq_true_eq]; omega)]
  | m + 1, i, s, hi, h1, h => by
    obtain ⟨s', hs', h'⟩ := arms_l1 kinds hk (show i ≤ k by omega) h1 h
    rw [loop_nxt (b := fun q : Option S68 × Int => law05_FilesArms_l1 kinds (k : Int) q.1 q.2) hs']
    exact arms_loop kinds hk m (i + 1) s' (by omega) (by omega) h'

theorem FilesArms (a0 : Int) (kinds : List Int) (h0 : gI .u8 a0) (h1 : gL 1 (gI .u8) kinds) : law05_FilesArms a0 kinds = some true := by
  have ha : 0 ≤ a0 ∧ a0 < 256 := by
    unfold gI Lit.wf at h0
    simp only [Bool.and_eq_true, decide_eq_true_eq] at h0
    exact ⟨h0.1, Int.lt_of_le_of_lt h0.2 (by decide)⟩
  unfold law05_FilesArms
  rw [awake_eq]
  simp only [Option.bind_some]
  rw [if_neg (by simp), New_eq (by decide) (by decide)]
  have s0 := SI_new (r := 5000) (by decide) (by decide)
  simp only [Option.bind_some]
  have a1 : appS (onS [] 5000 0) [97] [120] = (0, onS [⟨[97], [120], 0⟩] 5000 1) := app_on fa_ (by decide) (by decide)
  have s1 := s0.app (n := [97]) (p := [120]) (by decide)
  rw [s0.Append (by decide) (by decide), a1]
  rw [a1] at s1
  simp only [Option.bind_some]
  have hm : a0.tmod 10 = a0 % 10 := Int.tmod_eq_emod_of_nonneg ha.1
  rw [lt_, w64 (by omega) (by omega), lt_, hm, lt_, w64 (by omega) (by omega)]
  obtain ⟨k, hk, hk1, hk10⟩ : ∃ k : Nat, 1 + a0 % 10 = k ∧ 1 ≤ k ∧ k ≤ 10 := ⟨(1 + a0 % 10).toNat, by omega, by omega, by omega⟩
  rw [hk, Arm_eq]
  simp only [Option.bind_some]
  have a2 : armS (onS [⟨[97], [120], 0⟩] 5000 1) (k : Int) = (0, ⟨[⟨[97], [120], 0⟩], 5000, (k : Int), false, 1⟩) := by
    unfold armS; rw [if_neg (by omega)]; rfl
  rw [a2]
  have hA : AI k 1 ⟨[⟨[97], [120], 0⟩], 5000, (k : Int), false, 1⟩ := by
    refine ⟨⟨s1.rise, s1.form, s1.len, s1.room, s1.use, s1.sure, s1.byt, ⟨by simp only; omega, by simp only; omega⟩, s1.ops⟩, rfl, by simp only; omega, ?_, [120], 0, rfl, by decide⟩
    rw [decide_eq_false (by omega)]
  obtain ⟨s, hl, h⟩ := arms_loop kinds hk10 k 1 _ (by omega) (by omega) hA
  rw [show ((1 : Nat) : Int) = 1 from rfl] at hl
  rw [if_neg (by simp), hl]
  simp only [Option.bind_some]
  unfold law05_FilesArms_x1_0 law05_FilesArms_b1
  have hsi := h.si
  have r1 : readS s [97] = ([], 9) := by unfold readS; rw [arms_off h fa_]; rfl
  have r2 : appS s [97] [] = (9, s) := by unfold appS; rw [arms_off h fa_]; rfl
  have r3 : synS s [97] = (9, s) := by unfold synS chgS; rw [arms_off h fa_]; rfl
  have r4 : delS s [97] = (9, s) := by unfold delS chgS; rw [arms_off h fa_]; rfl
  have r5 : renS s [97] [98] = (9, s) := by unfold renS; rw [arms_off h fb_]; rfl
  rw [hsi.Read (by decide), r1]
  simp only [Option.bind_some]
  rw [if_pos (by decide), hsi.Append (by omega) (by decide), r2]
  simp only [Option.bind_some]
  rw [if_pos (by decide), hsi.Sync (by omega) (by decide), r3]
  simp only [Option.bind_some]
  rw [if_pos (by decide), hsi.Delete (by omega) (by decide), r4]
  simp only [Option.bind_some]
  rw [if_pos (by decide), hsi.Rename (by omega) (by decide) (by decide), r5]
  simp only [Option.bind_some]
  rw [if_pos (by decide), hsi.Restart]
  rfl
end Go.Proofs.Ytgjhiojkkjaloaa.P
