/- The engine's base: what a frame's slots hold; what stands in memory, part by part; loops of a plain function. -/
import Derived.WalkKit
import Derived.KernelRfl
namespace Go.Proofs.Ytgjhiojkkjaloaa.E
open Go Go.RowKit
set_option linter.unusedVariables false
set_option linter.unusedSimpArgs false

/-! #### slots -/
def lk : List (Nat × Value) → Nat → Option Value
  | [], _ => none
  | (k, v) :: r, t => bif Nat.beq k t then some v else lk r t

structure FR (n : Nat) (D : List Deferred) (a : Act) (F : List (Nat × Value)) : Prop where
  size : a.tmps.size = n
  defers : a.defers = D
  at_ : ∀ t v, lk F t = some v → a.tmps[t]? = some v

def ev (F : List (Nat × Value)) : Operand → Option Value
  | .tmp t => lk F t
  | .const v => some v
  | .global g => some (.pointer (some ⟨g, 0, none⟩))
  | .func f => some (.func (.func f) #[] #[])

section
variable {n : Nat} {D : List Deferred} {a : Act} {F : List (Nat × Value)}

theorem FR.ev (h : FR n D a F) {x : Operand} {v : Value} (hx : ev F x = some v) : a.eval x = v := by
  cases x with
  | tmp t =>
    have := h.at_ t v hx
    simp only [Act.eval, Array.getD_eq_getD_getElem?, this, Option.getD_some]
  | const c => exact Option.some.inj hx
  | global g => exact Option.some.inj hx
  | func f => exact Option.some.inj hx

theorem FR.put (h : FR n D a F) (t : Nat) (v : Value) (ht : t < n) : FR n D (a.put (some t) v) ((t, v) :: F) := by
  refine ⟨by simp [Act.put, h.size], h.defers, fun t' v' hv => ?_⟩
  simp only [lk] at hv
  by_cases e : Nat.beq t t' = true
  · rw [e] at hv
    have e' := Nat.eq_of_beq_eq_true e
    subst e'
    cases hv
    simp [Act.put, h.size, ht]
  · have e0 : Nat.beq t t' = false := Bool.eq_false_iff.2 e
    rw [e0] at hv
    have hne : t ≠ t' := fun e' => by subst e'; simp at e0
    simp only [Act.put, Array.getElem?_setIfInBounds, if_neg hne]
    exact h.at_ t' v' hv

theorem FR.none (h : FR n D a F) (v : Value) : FR n D (a.put none v) F := h

/-- fewer slots, as told -/
theorem FR.sub (h : FR n D a F) (F' : List (Nat × Value)) (hs : F'.map (fun p => lk F p.1) = F'.map fun p => some p.2) : FR n D a F' := by
  refine ⟨h.size, h.defers, fun t v hv => ?_⟩
  induction F' with
  | nil => cases hv
  | cons p r ih =>
    obtain ⟨k, u⟩ := p
    simp only [List.map_cons, List.cons.injEq] at hs
    simp only [lk] at hv
    by_cases e : Nat.beq k t = true
    · rw [e] at hv
      have e' := Nat.eq_of_beq_eq_true e
      subst e'
      cases hv
      exact h.at_ _ _ hs.1
    · have e0 : Nat.beq k t = false := Bool.eq_false_iff.2 e
      rw [e0] at hv
      exact ih hs.2 hv
end

/-! #### memory, part by part -/
structure HP where
  P : World → (Nat → Prop) → Prop
  fr : ∀ {w w' : World} {S : Nat → Prop}, P w S → (∀ k, S k → w'.heap[k]? = w.heap[k]?) → P w' S
  mono : ∀ {w : World} {S S' : Nat → Prop}, P w S → (∀ k, S k → S' k) → P w S'

def Sep : List HP → World → (Nat → Prop) → Prop
  | [], _, _ => True
  | A :: L, w, S => ∃ S1 S2 : Nat → Prop, (∀ k, S1 k → S k) ∧ (∀ k, S2 k → S k) ∧ (∀ k, S1 k → ¬ S2 k) ∧ A.P w S1 ∧ Sep L w S2

structure SH (r : World) (L : List HP) (w : World) : Prop where
  os : w.os = r.os
  tape : w.tape = r.tape
  output : w.output = r.output
  sep : Sep L w (fun k => k < w.heap.size)

theorem Sep.fr {w w' : World} : ∀ {L : List HP} {S : Nat → Prop}, Sep L w S → (∀ k, S k → w'.heap[k]? = w.heap[k]?) → Sep L w' S
  | [], _, _, _ => trivial
  | A :: L, S, ⟨S1, S2, h1, h2, hd, hA, hL⟩, h => ⟨S1, S2, h1, h2, hd, A.fr hA fun k hk => h k (h1 k hk), Sep.fr hL fun k hk => h k (h2 k hk)⟩

theorem Sep.mono {w : World} : ∀ {L : List HP} {S S' : Nat → Prop}, Sep L w S → (∀ k, S k → S' k) → Sep L w S'
  | [], _, _, _, _ => trivial
  | _ :: _, _, _, ⟨S1, S2, h1, h2, hd, hA, hL⟩, h => ⟨S1, S2, fun k hk => h k (h1 k hk), fun k hk => h k (h2 k hk), hd, hA, hL⟩

/-- the i-th part put first -/
def pk : Nat → List HP → List HP
  | _, [] => []
  | 0, L => L
  | i + 1, A :: L => match pk i L with
    | [] => [A]
    | B :: M => B :: A :: M

theorem Sep.swap {A B : HP} {L : List HP} {w : World} {S : Nat → Prop} (h : Sep (A :: B :: L) w S) : Sep (B :: A :: L) w S := by
  obtain ⟨S1, S2, h1, h2, hd, hA, S3, S4, h3, h4, hd', hB, hL⟩ := h
  exact ⟨S3, fun k => S1 k ∨ S4 k, fun k hk => h2 k (h3 k hk), fun k hk => hk.elim (h1 k) (fun q => h2 k (h4 k q)),
    fun k hk hq => hq.elim (fun q => hd k q (h3 k hk)) (fun q => hd' k hk q), hB, S1, S4, fun k hk => .inl hk, fun k hk => .inr hk,
    fun k hk q => hd k hk (h4 k q), hA, hL⟩

theorem Sep.pk {w : World} : ∀ (i : Nat) {L : List HP} {S : Nat → Prop}, Sep L w S → Sep (pk i L) w S
  | 0, [], _, h => h
  | _ + 1, [], _, h => h
  | 0, _ :: _, _, h => h
  | i + 1, A :: L, S, ⟨S1, S2, h1, h2, hd, hA, hL⟩ => by
    have ih := Sep.pk i hL
    simp only [E.pk]
    split
    · exact ⟨S1, S2, h1, h2, hd, hA, trivial⟩
    · rename_i B M e
      rw [e] at ih
      exact Sep.swap ⟨S1, S2, h1, h2, hd, hA, ih⟩

section
variable {r w w' : World} {L L' : List HP} {A B : HP}

theorem SH.pk (h : SH r L w) (i : Nat) : SH r (pk i L) w := ⟨h.os, h.tape, h.output, h.sep.pk i⟩

theorem SH.tail (h : SH r (A :: L) w) : SH r L w := by
  obtain ⟨S1, S2, h1, h2, hd, hA, hL⟩ := h.sep
  exact ⟨h.os, h.tape, h.output, hL.mono h2⟩

theorem SH.drop (h : SH r L w) (i : Nat) : SH r (E.pk i L).tail w := by
  have h' := h.pk i
  cases hp : E.pk i L with
  | nil => rw [hp] at h'; exact h'
  | cons A M => rw [hp] at h'; exact h'.tail

/-- what stands first, and what may become of it -/
theorem SH.head (h : SH r (A :: L) w) : ∃ S1 S2 : Nat → Prop, (∀ k, S1 k → k < w.heap.size) ∧ (∀ k, S2 k → k < w.heap.size) ∧ (∀ k, S1 k → ¬ S2 k) ∧ A.P w S1 ∧ Sep L w S2 := h.sep

/-- the first part is made anew: of the old blocks only its own may be other than they were -/
theorem SH.upd (h : SH r (A :: L) w) {S1 S2 : Nat → Prop} (h1 : ∀ k, S1 k → k < w.heap.size) (h2 : ∀ k, S2 k → k < w.heap.size) (hd : ∀ k, S1 k → ¬ S2 k) (hL : Sep L w S2)
    (ho : w'.os = w.os) (ht : w'.tape = w.tape) (hp : w'.output = w.output) (hs : w.heap.size ≤ w'.heap.size)
    (hk : ∀ k, k < w.heap.size → ¬ S1 k → w'.heap[k]? = w.heap[k]?)
    {Ls : List HP} (hB : ∀ S : Nat → Prop, (∀ k, S1 k → S k) → (∀ k, w.heap.size ≤ k → k < w'.heap.size → S k) → (∀ k, S k → k < w'.heap.size) → Sep Ls w' S) :
    SH r (Ls ++ L) w' := by
  refine ⟨ho.trans h.os, ht.trans h.tape, hp.trans h.output, ?_⟩
  have hL' : Sep L w' S2 := hL.fr fun k hk2 => hk k (h2 k hk2) fun hk1 => hd k hk1 hk2
  have hB' : Sep Ls w' (fun k => (S1 k ∨ w.heap.size ≤ k) ∧ k < w'.heap.size) := hB _ (fun k q => ⟨.inl q, by have := h1 k q; omega⟩) (fun k q q' => ⟨.inr q, q'⟩) (fun k q => q.2)
  have hd' : ∀ k, ((S1 k ∨ w.heap.size ≤ k) ∧ k < w'.heap.size) → ¬ S2 k := fun k q q2 => q.1.elim (fun q1 => hd k q1 q2) (fun q1 => by have := h2 k q2; omega)
  have key : ∀ (Ls : List HP) (T : Nat → Prop), (∀ k, T k → k < w'.heap.size) → (∀ k, T k → ¬ S2 k) → Sep Ls w' T → Sep (Ls ++ L) w' (fun k => T k ∨ S2 k) := by
    intro Ls
    induction Ls with
    | nil => intro T _ _ _; exact hL'.mono fun k q => .inr q
    | cons C Ls ih =>
      intro T hT hdT hC
      obtain ⟨T1, T2, q1, q2, qd, qC, qL⟩ := hC
      exact ⟨T1, fun k => T2 k ∨ S2 k, fun k q => .inl (q1 k q), fun k q => q.elim (fun q => .inl (q2 k q)) .inr,
        fun k q q' => q'.elim (qd k q) (hdT k (q1 k q)), qC, ih T2 (fun k q => hT k (q2 k q)) (fun k q => hdT k (q2 k q)) qL⟩
  exact (key Ls _ (fun k q => q.2) hd' hB').mono fun k q => q.elim (fun q => q.2) (fun q => by have := h2 k q; omega)

/-- nothing old is touched -/
theorem SH.keep (h : SH r L w) (ho : w'.os = w.os) (ht : w'.tape = w.tape) (hp : w'.output = w.output) (hs : w.heap.size ≤ w'.heap.size)
    (hk : ∀ k, k < w.heap.size → w'.heap[k]? = w.heap[k]?) : SH r L w' :=
  ⟨ho.trans h.os, ht.trans h.tape, hp.trans h.output, (h.sep.fr hk).mono fun k q => by omega⟩

theorem SH.drew (h : SH r L w) : SH r L w.drew := h.keep rfl rfl rfl (Nat.le_refl _) fun _ _ => rfl
end

/-! #### loops of a plain function -/
def iter {σ τ : Type} (b : σ → Option (σ ⊕ τ)) : Nat → σ → Option τ
  | 0, _ => none
  | k + 1, s => match b s with
    | none => none
    | some (.inl s') => iter b k s'
    | some (.inr t) => some t

open Classical in
/-- what a loop comes to: some number of rounds on -/
noncomputable def loop {σ τ : Type} (b : σ → Option (σ ⊕ τ)) (s : σ) : Option τ :=
  if h : ∃ k t, iter b k s = some t then some h.choose_spec.choose else none

section
variable {σ τ : Type} {b : σ → Option (σ ⊕ τ)} {s : σ} {t : τ}

theorem iter_more {k : Nat} : ∀ {s : σ}, iter b k s = some t → ∀ j, k ≤ j → iter b j s = some t := by
  induction k with
  | zero => intro s h; cases h
  | succ k ih =>
    intro s h j hj
    obtain ⟨j, rfl⟩ : ∃ m, j = m + 1 := ⟨j - 1, by omega⟩
    simp only [iter] at h ⊢
    cases e : b s with
    | none => rw [e] at h; cases h
    | some x =>
      rw [e] at h
      cases x with
      | inl s' => exact ih h j (by omega)
      | inr t' => exact h

theorem loop_iff : loop b s = some t ↔ ∃ k, iter b k s = some t := by
  unfold loop
  constructor
  · intro h
    split at h
    · rename_i hx
      cases h
      exact ⟨hx.choose, hx.choose_spec.choose_spec⟩
    · cases h
  · rintro ⟨k, hk⟩
    have hx : ∃ k t, iter b k s = some t := ⟨k, t, hk⟩
    rw [dif_pos hx]
    have h1 := iter_more hx.choose_spec.choose_spec (max k hx.choose) (Nat.le_max_right _ _)
    have h2 := iter_more hk (max k hx.choose) (Nat.le_max_left _ _)
    rw [h1] at h2
    exact h2

theorem loop_nxt {s' : σ} (hb : b s = some (.inl s')) : loop b s = loop b s' := by
  cases h : loop b s' with
  | some t =>
    obtain ⟨k, hk⟩ := loop_iff.1 h
    exact loop_iff.2 ⟨k + 1, by simp only [iter, hb]; exact hk⟩
  | none =>
    cases h' : loop b s with
    | none => rfl
    | some t =>
      obtain ⟨k, hk⟩ := loop_iff.1 h'
      cases k with
      | zero => cases hk
      | succ k =>
        simp only [iter, hb] at hk
        rw [loop_iff.2 ⟨k, hk⟩] at h
        cases h

theorem loop_end (hb : b s = some (.inr t)) : loop b s = some t := loop_iff.2 ⟨1, by simp only [iter, hb]⟩

/-- a loop by a measure: from every state that is good some round leads to a lesser good one, or ends well -/
theorem loop_good (I : σ → Prop) (μ : σ → Nat) (R : τ → Prop) (h0 : I s)
    (round : ∀ s, I s → (∃ s', b s = some (.inl s') ∧ I s' ∧ μ s' < μ s) ∨ ∃ t, b s = some (.inr t) ∧ R t) : ∃ t, loop b s = some t ∧ R t := by
  generalize hn : μ s = n
  induction n using Nat.strongRecOn generalizing s with
  | _ n ih =>
    rcases round s h0 with ⟨s', hb, hI, hlt⟩ | ⟨t, hb, hR⟩
    · obtain ⟨t, ht, hR⟩ := ih (μ s') (by omega) hI rfl
      exact ⟨t, (loop_nxt hb).trans ht, hR⟩
    · exact ⟨t, loop_end hb, hR⟩
end

/-- the machine's loop goes as the plain function's -/
theorem wp_loop_fn {σ τ : Type} {P : Program} {c : Code} {Q : Exit → Act → World → Prop} {b : σ → Option (σ ⊕ τ)} {s0 : σ} {t : τ} (h : loop b s0 = some t)
    (Lab : σ → Act → World → Prop) {a : Act} {w : World} (h0 : Lab s0 a w)
    (round : ∀ (N : σ → Prop) (s : σ) (o : σ ⊕ τ), b s = some o → (∀ s', o = .inl s' → N s') → (∀ t', o = .inr t' → t' = t) → ∀ a w, Lab s a w →
      c.wp P (Exit.then (fun a w => ∃ s', N s' ∧ Lab s' a w) Q) a w) : (Code.loop c).wp P Q a w := by
  obtain ⟨k, hk⟩ := loop_iff.1 h
  refine wp_loop_rounds k ?_
  clear h
  induction k generalizing s0 a w with
  | zero => cases hk
  | succ k ih =>
    rw [rounds_succ]
    simp only [iter] at hk
    split at hk
    · cases hk
    · rename_i s' e
      refine Code.wp_mono (fun ex a w q => ?_) (round (fun s'' => iter b k s'' = some t) s0 _ e (fun s'' h => by cases h; exact hk) (fun t' h => by cases h) a w h0)
      cases ex <;> try exact q
      obtain ⟨s'', hN, hL⟩ := q
      exact ih hL hN
    · rename_i t' e
      cases hk
      refine Code.wp_mono (fun ex a w q => ?_) (round (fun _ => False) s0 _ e (fun s'' h => by cases h) (fun t'' h => by cases h; rfl) a w h0)
      cases ex <;> try exact q
      obtain ⟨s'', hN, hL⟩ := q
      exact hN.elim

#print axioms wp_loop_fn
end Go.Proofs.Ytgjhiojkkjaloaa.E
