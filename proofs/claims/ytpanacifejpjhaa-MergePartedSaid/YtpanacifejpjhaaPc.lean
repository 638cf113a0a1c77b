/- A tree of losers, in plain words: what it is, and that it stays one. -/
import Derived.Test.YtpanacifejpjhaaPb
namespace Go.Proofs.Ytpanacifejpjhaa.P
open Go Go.RowKit Go.Proofs.Ytpanacifejpjhaa.E
set_option linter.unusedVariables false

def Anc (i j : Nat) : Prop := ∃ m, j / 2 ^ m = i

theorem Anc.refl (i : Nat) : Anc i i := ⟨0, by simp⟩
theorem Anc.up {i j : Nat} (h : Anc i j) : Anc (i / 2) j := by
  obtain ⟨m, rfl⟩ := h
  exact ⟨m + 1, by rw [Nat.pow_succ, Nat.div_div_eq_div_mul]⟩
theorem Anc.trans {i j k : Nat} (h : Anc i j) (h' : Anc j k) : Anc i k := by
  obtain ⟨m, rfl⟩ := h
  obtain ⟨m', rfl⟩ := h'
  exact ⟨m' + m, by rw [Nat.pow_add, Nat.div_div_eq_div_mul]⟩
theorem Anc.le {i j : Nat} (h : Anc i j) : i ≤ j := by obtain ⟨m, rfl⟩ := h; exact Nat.div_le_self _ _
theorem Anc.half {i j : Nat} (h : Anc i j) (hn : i ≠ j) : Anc i (j / 2) := by
  obtain ⟨m, rfl⟩ := h
  cases m with
  | zero => simp at hn
  | succ m => exact ⟨m, by rw [Nat.pow_succ, Nat.mul_comm, Nat.div_div_eq_div_mul]⟩
theorem Anc.one : ∀ (j : Nat), 1 ≤ j → Anc 1 j := by
  intro j
  induction j using Nat.strongRecOn with
  | _ j ih =>
    intro hj
    rcases Nat.lt_or_ge j 2 with h | h
    · rw [show j = 1 by omega]; exact Anc.refl 1
    · exact (ih (j / 2) (by omega) (by omega)).trans ⟨1, rfl⟩
/-- two that stand side by side have nothing below them in common -/
theorem Anc.apart {i j : Nat} (hi : 1 ≤ i) (h : Anc (2 * i) j) (h' : Anc (2 * i + 1) j) : False := by
  obtain ⟨m, hm⟩ := h
  obtain ⟨m', hm'⟩ := h'
  rcases Nat.lt_trichotomy m m' with hlt | rfl | hlt
  · obtain ⟨d, rfl⟩ : ∃ d, m' = m + (d + 1) := ⟨m' - m - 1, by omega⟩
    rw [Nat.pow_add, ← Nat.div_div_eq_div_mul, hm, Nat.pow_succ, Nat.mul_comm (2 ^ d), ← Nat.div_div_eq_div_mul] at hm'
    have := Nat.div_le_self (2 * i / 2) (2 ^ d)
    omega
  · omega
  · obtain ⟨d, rfl⟩ : ∃ d, m = m' + (d + 1) := ⟨m - m' - 1, by omega⟩
    rw [Nat.pow_add, ← Nat.div_div_eq_div_mul, hm', Nat.pow_succ, Nat.mul_comm (2 ^ d), ← Nat.div_div_eq_div_mul] at hm
    have := Nat.div_le_self ((2 * i + 1) / 2) (2 ^ d)
    omega

structure STO (k : Nat) (lt : Nat → Nat → Bool) : Prop where
  irr : ∀ a, lt a a = false
  trans : ∀ a b c, lt a b = true → lt b c = true → lt a c = true
  tot : ∀ a b, a < k → b < k → a ≠ b → lt a b = true ∨ lt b a = true

def Inn (lt : Nat → Nat → Bool) (W node : Nat → Nat) (i : Nat) : Prop :=
  lt (W i) (node i) = true ∧ ((W i = W (2 * i) ∧ node i = W (2 * i + 1)) ∨ (W i = W (2 * i + 1) ∧ node i = W (2 * i)))

structure Tour (k : Nat) (lt : Nat → Nat → Bool) (W node : Nat → Nat) : Prop where
  leaf : ∀ i, i < k → W (k + i) = i
  inner : ∀ i, 1 ≤ i → i < k → Inn lt W node i

section
variable {k : Nat} {lt : Nat → Nat → Bool} {W node : Nat → Nat}

/-- who stands at a place comes from below it -/
theorem below (leaf : ∀ i, i < k → W (k + i) = i) (i0 : Nat) (h0 : 1 ≤ i0) (inner : ∀ i, i0 ≤ i → i < k → (W i = W (2 * i) ∨ W i = W (2 * i + 1))) :
    ∀ (n i : Nat), i0 ≤ i → i < 2 * k → 2 * k - i = n → W i < k ∧ Anc i (W i + k) := by
  intro n
  induction n using Nat.strongRecOn with
  | _ n ih =>
    intro i hi hk hn
    rcases Nat.lt_or_ge i k with h | h
    · rcases inner i hi h with h1 | h1
      · obtain ⟨h2, h3⟩ := ih (2 * k - 2 * i) (by omega) (2 * i) (by omega) (by omega) rfl
        rw [h1]
        exact ⟨h2, by have := h3.up; rwa [show 2 * i / 2 = i by omega] at this⟩
      · obtain ⟨h2, h3⟩ := ih (2 * k - (2 * i + 1)) (by omega) (2 * i + 1) (by omega) (by omega) rfl
        rw [h1]
        exact ⟨h2, by have := h3.up; rwa [show (2 * i + 1) / 2 = i by omega] at this⟩
    · have := leaf (i - k) (by omega)
      rw [show k + (i - k) = i by omega] at this
      rw [this]
      exact ⟨by omega, by rw [show i - k + k = i by omega]; exact Anc.refl i⟩

theorem Inn.or {i : Nat} (h : Inn lt W node i) : W i = W (2 * i) ∨ W i = W (2 * i + 1) := h.2.elim (fun h => .inl h.1) fun h => .inr h.1

theorem Tour.below (h : Tour k lt W node) {i : Nat} (hi : 1 ≤ i) (hk : i < 2 * k) : W i < k ∧ Anc i (W i + k) :=
  P.below h.leaf 1 (Nat.le_refl _) (fun i h1 h2 => (h.inner i h1 h2).or) _ i hi hk rfl

/-- who stands at a place is ahead of all below it -/
theorem Tour.min (h : Tour k lt W node) (ho : STO k lt) : ∀ (n i : Nat), 1 ≤ i → i < 2 * k → 2 * k - i = n → ∀ j, j < k → Anc i (j + k) → j = W i ∨ lt (W i) j = true := by
  intro n
  induction n using Nat.strongRecOn with
  | _ n ih =>
    intro i hi hk hn j hj ha
    rcases Nat.lt_or_ge i k with hik | hik
    · have ha' := ha.half (by omega)
      obtain ⟨m, hm⟩ := ha'
      have key : ∀ c, (c = 2 * i ∨ c = 2 * i + 1) → Anc c (j + k) → j = W i ∨ lt (W i) j = true := by
        intro c hc hac
        obtain ⟨hlt, hh⟩ := h.inner i hi hik
        have := ih (2 * k - c) (by omega) c (by omega) (by omega) rfl j hj hac
        have hW : W i = W c ∨ lt (W i) (W c) = true := by
          rcases hc with rfl | rfl
          · rcases hh with ⟨h1, h2⟩ | ⟨h1, h2⟩
            · exact .inl h1
            · exact .inr (h2 ▸ hlt)
          · rcases hh with ⟨h1, h2⟩ | ⟨h1, h2⟩
            · exact .inr (h2 ▸ hlt)
            · exact .inl h1
        rcases hW with hW | hW
        · rw [hW]; exact this
        · rcases this with rfl | this
          · exact .inr hW
          · exact .inr (ho.trans _ _ _ hW this)
      obtain ⟨m, hm⟩ := ha
      cases m with
      | zero => simp at hm; omega
      | succ m =>
        rw [Nat.pow_succ, ← Nat.div_div_eq_div_mul] at hm
        exact key _ (by omega) ⟨m, rfl⟩
    · have := h.leaf (i - k) (by omega)
      rw [show k + (i - k) = i by omega] at this
      obtain ⟨m, hm⟩ := ha
      cases m with
      | zero => simp at hm; exact .inl (by omega)
      | succ m =>
        rw [Nat.pow_succ, Nat.mul_comm, ← Nat.div_div_eq_div_mul] at hm
        have := Nat.div_le_self ((j + k) / 2) (2 ^ m)
        omega

theorem Tour.first (h : Tour k lt W node) (ho : STO k lt) (hk : 1 ≤ k) {j : Nat} (hj : j < k) (hn : j ≠ W 1) : lt (W 1) j = true :=
  (h.min ho _ 1 (Nat.le_refl _) (by omega) rfl j hj (Anc.one _ (by omega))).resolve_left hn

/-- on the way down from the top to the winner's place it is the winner everywhere -/
theorem Tour.path (h : Tour k lt W node) (hk : 1 ≤ k) : ∀ (i : Nat), 1 ≤ i → Anc i (W 1 + k) → W i = W 1 := by
  intro i
  induction i using Nat.strongRecOn with
  | _ i ih =>
    intro hi ha
    have hw := (h.below (i := 1) (by omega) (by omega)).1
    have hi2 : i < 2 * k := by have := ha.le; omega
    rcases Nat.lt_or_ge i 2 with h2 | h2
    · rw [show i = 1 by omega]
    · have hp := ih (i / 2) (by omega) (by omega) ha.up
      rcases (h.inner (i / 2) (by omega) (by omega)).or with h1 | h1
      · have hb := h.below (i := 2 * (i / 2)) (by omega) (by omega)
        rw [← h1, hp] at hb
        rcases Nat.mod_two_eq_zero_or_one i with h3 | h3
        · rw [show i = 2 * (i / 2) by omega, ← h1, hp]
        · exact (Anc.apart (i := i / 2) (by omega) hb.2 (by rw [show 2 * (i / 2) + 1 = i by omega]; exact ha)).elim
      · have hb := h.below (i := 2 * (i / 2) + 1) (by omega) (by omega)
        rw [← h1, hp] at hb
        rcases Nat.mod_two_eq_zero_or_one i with h3 | h3
        · exact (Anc.apart (i := i / 2) (by omega) (by rw [show 2 * (i / 2) = i by omega]; exact ha) hb.2).elim
        · rw [show i = 2 * (i / 2) + 1 by omega, ← h1, hp]

/-- a new way up: what holds when place c is done -/
structure Way (k : Nat) (lt lt' : Nat → Nat → Bool) (W node : Nat → Nat) (c : Nat) (W' node' : Nat → Nat) : Prop where
  c1 : 1 ≤ c
  anc : Anc c (W 1 + k)
  leaf : ∀ i, i < k → W' (k + i) = i
  inner : ∀ i, 1 ≤ i → i < k → ¬ (Anc i c ∧ i ≠ c) → Inn lt' W' node' i
  todo : ∀ i, Anc i c → i ≠ c → node' i = node i
  rest : ∀ j, 1 ≤ j → ¬ Anc j (W 1 + k) → W' j = W j
  rng : W' c < k ∧ Anc c (W' c + k)

theorem Way.start {lt' : Nat → Nat → Bool} (h : Tour k lt W node) (hk : 1 ≤ k) (hl : ∀ a b, a ≠ W 1 → b ≠ W 1 → lt' a b = lt a b) : Way k lt lt' W node (W 1 + k) W node := by
  have hw := (h.below (i := 1) (by omega) (by omega)).1
  refine ⟨by omega, Anc.refl _, h.leaf, fun i h1 h2 hn => ?_, fun _ _ _ => rfl, fun _ _ _ => rfl, ?_⟩
  · have hna : ¬ Anc i (W 1 + k) := fun ha => hn ⟨ha, by omega⟩
    obtain ⟨hlt, hor⟩ := h.inner i h1 h2
    have hd : ∀ j, 1 ≤ j → j < 2 * k → Anc i j → W j ≠ W 1 := by
      intro j hj1 hj2 hij he
      have := (h.below (i := j) hj1 hj2).2
      rw [he] at this
      exact hna (hij.trans this)
    have d0 := hd i h1 (by omega) (Anc.refl i)
    have d1 := hd (2 * i) (by omega) (by omega) ⟨1, by omega⟩
    have d2 := hd (2 * i + 1) (by omega) (by omega) ⟨1, by omega⟩
    refine ⟨?_, hor⟩
    rw [hl _ _ d0 (by rcases hor with ⟨_, e⟩ | ⟨_, e⟩ <;> rw [e] <;> assumption)]
    exact hlt
  · have := h.leaf (W 1) hw
    rw [Nat.add_comm] at this
    rw [this]
    exact ⟨hw, Anc.refl _⟩

def upd (f : Nat → Nat) (i v : Nat) : Nat → Nat := fun j => if j = i then v else f j

theorem Way.step {lt' : Nat → Nat → Bool} {c : Nat} {W' node' : Nat → Nat} (h : Tour k lt W node) (hk : 1 ≤ k) (ho : STO k lt') (hw : Way k lt lt' W node c W' node') (hc : 2 ≤ c) :
    node (c / 2) < k ∧ (lt' (node (c / 2)) (W' c) = true → Way k lt lt' W node (c / 2) (upd W' (c / 2) (node (c / 2))) (upd node' (c / 2) (W' c))) ∧
      (lt' (node (c / 2)) (W' c) = false → Way k lt lt' W node (c / 2) (upd W' (c / 2) (W' c)) node') := by
  have hW1 := (h.below (i := 1) (by omega) (by omega)).1
  have hc2 : c < 2 * k := by have := hw.anc.le; omega
  obtain ⟨i, hi⟩ : ∃ i, i = c / 2 := ⟨_, rfl⟩
  rw [← hi]
  have hi1 : 1 ≤ i := by omega
  have hik : i < k := by omega
  have hpi := h.path hk i hi1 (by rw [hi]; exact hw.anc.up)
  have hpc := h.path hk c hw.c1 hw.anc
  obtain ⟨s, hsc⟩ : ∃ s, (s = 2 * i ∧ c = 2 * i + 1) ∨ (s = 2 * i + 1 ∧ c = 2 * i) := by
    rcases Nat.mod_two_eq_zero_or_one c with h3 | h3
    · exact ⟨2 * i + 1, .inr ⟨rfl, by omega⟩⟩
    · exact ⟨2 * i, .inl ⟨rfl, by omega⟩⟩
  have hap : ∀ j, Anc c j → Anc s j → False := by
    intro j h1 h2
    rcases hsc with ⟨rfl, e⟩ | ⟨rfl, e⟩ <;> rw [e] at h1
    · exact Anc.apart hi1 h2 h1
    · exact Anc.apart hi1 h1 h2
  have hs1 : 1 ≤ s ∧ s < 2 * k ∧ s / 2 = i := by omega
  have hsa : ¬ Anc s (W 1 + k) := fun ha => hap _ hw.anc ha
  have hsW := hw.rest s hs1.1 hsa
  have hsb := h.below (i := s) hs1.1 hs1.2.1
  have hsn : W s ≠ W 1 := fun e => hsa (e ▸ hsb.2)
  have hnd : node i = W s := by
    obtain ⟨_, hor⟩ := h.inner i hi1 hik
    rcases hsc with ⟨rfl, e⟩ | ⟨rfl, e⟩ <;> rcases hor with ⟨h1, h2⟩ | ⟨h1, h2⟩
    · exact absurd (h1.symm.trans hpi) hsn
    · exact h2
    · exact h2
    · exact absurd (h1.symm.trans hpi) hsn
  have hne : W' c ≠ W s := fun e => hap _ hw.rng.2 (e ▸ hsb.2)
  have mk : ∀ (x y : Nat) (node'' : Nat → Nat), lt' x y = true → ((x = W' c ∧ y = W s) ∨ (x = W s ∧ y = W' c)) → node'' i = y → (∀ j, j ≠ i → node'' j = node' j) → Way k lt lt' W node i (upd W' i x) node'' := by
    intro x y node'' hxy hor hny hno
    have hanc : Anc i (W 1 + k) := by have := hw.anc.up; rwa [← hi] at this
    refine ⟨hi1, hanc, fun j hj => ?_, fun j h1 h2 hn => ?_, fun j ha hj => ?_, fun j h1 hn => ?_, ?_⟩
    · simp only [upd, if_neg (show k + j ≠ i by omega)]; exact hw.leaf j hj
    · by_cases hji : j = i
      · subst hji
        refine ⟨by simp only [upd, if_true]; rw [hny]; exact hxy, ?_⟩
        simp only [upd, if_true, if_neg (show 2 * j ≠ j by omega), if_neg (show 2 * j + 1 ≠ j by omega)]
        rw [hny]
        rcases hsc with ⟨e1, e2⟩ | ⟨e1, e2⟩
        · rw [show W' (2 * j) = W s by rw [← e1, hsW], show W' (2 * j + 1) = W' c by rw [← e2]]
          exact hor.elim .inr .inl
        · rw [show W' (2 * j + 1) = W s by rw [← e1, hsW], show W' (2 * j) = W' c by rw [← e2]]
          exact hor
      · have hna : ¬ Anc j i := fun ha => hn ⟨ha, hji⟩
        have hin := hw.inner j h1 h2 fun ⟨ha, hjc⟩ => hna (by have := ha.half hjc; rwa [← hi] at this)
        have e1 : 2 * j ≠ i := fun e => hna ⟨1, by omega⟩
        have e2 : 2 * j + 1 ≠ i := fun e => hna ⟨1, by omega⟩
        unfold Inn
        simp only [upd, if_neg hji, if_neg e1, if_neg e2]
        rw [hno j hji]
        exact hin
    · rw [hno j hj]
      exact hw.todo j (ha.trans ⟨1, by omega⟩) (by have := ha.le; omega)
    · simp only [upd, if_neg (show j ≠ i from fun e => hn (e ▸ hanc))]
      exact hw.rest j h1 hn
    · simp only [upd, if_true]
      rcases hor with ⟨rfl, _⟩ | ⟨rfl, _⟩
      · exact ⟨hw.rng.1, by have := hw.rng.2.up; rwa [← hi] at this⟩
      · exact ⟨hsb.1, by have := hsb.2.up; rwa [hs1.2.2] at this⟩
  rw [hnd]
  refine ⟨hsb.1, fun ht => ?_, fun hf => ?_⟩
  · exact mk _ (W' c) _ ht (.inr ⟨rfl, rfl⟩) (by simp [upd]) fun j hj => by simp [upd, hj]
  · refine mk _ (W s) _ ?_ (.inl ⟨rfl, rfl⟩) ?_ fun j hj => rfl
    · rcases ho.tot _ _ hw.rng.1 hsb.1 hne with h1 | h1
      · exact h1
      · rw [h1] at hf; cases hf
    · rw [hw.todo i ⟨1, by omega⟩ (by omega), hnd]

theorem Way.done {lt' : Nat → Nat → Bool} {W' node' : Nat → Nat} (hw : Way k lt lt' W node 1 W' node') : Tour k lt' W' node' :=
  ⟨hw.leaf, fun i h1 h2 => hw.inner i h1 h2 fun ⟨ha, hn⟩ => hn (by have := ha.le; omega)⟩

/-- from the leaves up -/
structure Rise (k : Nat) (lt : Nat → Nat → Bool) (i : Nat) (W node : Nat → Nat) : Prop where
  leaf : ∀ j, j < k → W (k + j) = j
  inner : ∀ j, i < j → j < k → 1 ≤ j → Inn lt W node j

theorem Rise.step (ho : STO k lt) {i : Nat} (hi1 : 1 ≤ i) (hik : i < k) (h : Rise k lt i W node) :
    W (2 * i) < k ∧ W (2 * i + 1) < k ∧ (lt (W (2 * i + 1)) (W (2 * i)) = true → Rise k lt (i - 1) (upd W i (W (2 * i + 1))) (upd node i (W (2 * i)))) ∧
      (lt (W (2 * i + 1)) (W (2 * i)) = false → Rise k lt (i - 1) (upd W i (W (2 * i))) (upd node i (W (2 * i + 1)))) := by
  have hb := P.below h.leaf (i + 1) (by omega) fun j h1 h2 => (h.inner j (by omega) h2 (by omega)).or
  have b1 := hb _ (2 * i) (by omega) (by omega) rfl
  have b2 := hb _ (2 * i + 1) (by omega) (by omega) rfl
  have hne : W (2 * i) ≠ W (2 * i + 1) := fun e => Anc.apart hi1 b1.2 (by rw [e]; exact b2.2)
  have mk : ∀ x y, lt x y = true → ((x = W (2 * i) ∧ y = W (2 * i + 1)) ∨ (x = W (2 * i + 1) ∧ y = W (2 * i))) → Rise k lt (i - 1) (upd W i x) (upd node i y) := by
    intro x y hxy hor
    refine ⟨fun j hj => ?_, fun j h1 h2 h3 => ?_⟩
    · simp only [upd, if_neg (show k + j ≠ i by omega)]; exact h.leaf j hj
    · unfold Inn
      by_cases hji : j = i
      · subst hji
        simp only [upd, if_true, if_neg (show 2 * j ≠ j by omega), if_neg (show 2 * j + 1 ≠ j by omega)]
        exact ⟨hxy, hor⟩
      · simp only [upd, if_neg hji, if_neg (show 2 * j ≠ i by omega), if_neg (show 2 * j + 1 ≠ i by omega)]
        exact h.inner j (by omega) h2 h3
  refine ⟨b1.1, b2.1, fun ht => mk _ _ ht (.inr ⟨rfl, rfl⟩), fun hf => mk _ _ ?_ (.inl ⟨rfl, rfl⟩)⟩
  rcases ho.tot _ _ b1.1 b2.1 hne with h1 | h1
  · exact h1
  · rw [h1] at hf; cases hf

theorem Rise.done (h : Rise k lt 0 W node) : Tour k lt W node := ⟨h.leaf, fun i h1 h2 => h.inner i h1 h2 h1⟩
end
end Go.Proofs.Ytpanacifejpjhaa.P
