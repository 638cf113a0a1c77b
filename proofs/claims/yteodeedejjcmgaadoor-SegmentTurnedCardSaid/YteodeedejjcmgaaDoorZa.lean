/- Texts of the claim, joined: what it uses of Ea, Eb, Ec, Ed, Ee, Ef, Eg. -/
import Derived.WalkKit
import Derived.KernelRfl
import Derived.Maps.AppendAt
import Derived.Deep.AppendLies
import Derived.Orders
namespace Go.Proofs.YteodeedejjcmgaaDoor.E
open Go Go.RowKit
set_option linter.unusedVariables false
set_option linter.unusedSimpArgs false
def lk : List (Nat × Value) → Nat → Option Value
 | [], _ => none
 | (k, v) :: r, t => bif Nat.beq k t then some v else lk r t
structure FR (n : Nat) (D : List Deferred) (a : Act) (F : List (Nat × Value)) : Prop where
 size : a.tmps.size = n
 defers : a.defers = D
 at_ : ∀ t v, lk F t = some v → a.tmps[t]? = some v
def ev (F : List (Nat × Value)) : Operand → Option Value
 | .tmp t => lk F t
 | .const v => some v
 | .global g => some (.pointer (some ⟨g, 0, none⟩))
 | .func f => some (.func (.func f) #[] #[])
section
variable {n : Nat} {D : List Deferred} {a : Act} {F : List (Nat × Value)}
theorem FR.ev (h : FR n D a F) {x : Operand} {v : Value} (hx : ev F x = some v) : a.eval x = v := by
 cases x with
 | tmp t =>
  have := h.at_ t v hx
  simp only [Act.eval, Array.getD_eq_getD_getElem?, this, Option.getD_some]
 | const c => exact Option.some.inj hx
 | global g => exact Option.some.inj hx
 | func f => exact Option.some.inj hx
theorem FR.put (h : FR n D a F) (t : Nat) (v : Value) (ht : t < n) : FR n D (a.put (some t) v) ((t, v) :: F) := by
 refine ⟨by simp [Act.put, h.size], h.defers, fun t' v' hv => ?_⟩
 simp only [lk] at hv
 by_cases e : Nat.beq t t' = true
 ·rw [e] at hv
  have e' := Nat.eq_of_beq_eq_true e
  subst e'
  cases hv
  simp [Act.put, h.size, ht]
 ·have e0 : Nat.beq t t' = false := Bool.eq_false_iff.2 e
  rw [e0] at hv
  have hne : t ≠ t' := fun e' => by subst e'; simp at e0
  simp only [Act.put, Array.getElem?_setIfInBounds, if_neg hne]
  exact h.at_ t' v' hv
theorem FR.none (h : FR n D a F) (v : Value) : FR n D (a.put none v) F := h
theorem FR.sub (h : FR n D a F) (F' : List (Nat × Value)) (hs : F'.map (fun p => lk F p.1) = F'.map fun p => some p.2) : FR n D a F' := by
 refine ⟨h.size, h.defers, fun t v hv => ?_⟩
 induction F' with
 | nil => cases hv
 | cons p r ih =>
  obtain ⟨k, u⟩ := p
  simp only [List.map_cons, List.cons.injEq] at hs
  simp only [lk] at hv
  by_cases e : Nat.beq k t = true
  ·rw [e] at hv
   have e' := Nat.eq_of_beq_eq_true e
   subst e'
   cases hv
   exact h.at_ _ _ hs.1
  ·have e0 : Nat.beq k t = false := Bool.eq_false_iff.2 e
   rw [e0] at hv
   exact ih hs.2 hv
end
structure HP where
 P : World → (Nat → Prop) → Prop
 fr : ∀ {w w' : World} {S : Nat → Prop}, P w S → (∀ k, S k → w'.heap[k]? = w.heap[k]?) → P w' S
 mono : ∀ {w : World} {S S' : Nat → Prop}, P w S → (∀ k, S k → S' k) → P w S'
def Sep : List HP → World → (Nat → Prop) → Prop
 | [], _, _ => True
 | A :: L, w, S => ∃ S1 S2 : Nat → Prop, (∀ k, S1 k → S k) ∧ (∀ k, S2 k → S k) ∧ (∀ k, S1 k → ¬ S2 k) ∧ A.P w S1 ∧ Sep L w S2
structure SH (r : World) (L : List HP) (w : World) : Prop where
 os : w.os = r.os
 tape : w.tape = r.tape
 output : w.output = r.output
 sep : Sep L w (fun k => k < w.heap.size)
theorem Sep.fr {w w' : World} : ∀ {L : List HP} {S : Nat → Prop}, Sep L w S → (∀ k, S k → w'.heap[k]? = w.heap[k]?) → Sep L w' S
 | [], _, _, _ => trivial
 | A :: L, S, ⟨S1, S2, h1, h2, hd, hA, hL⟩, h => ⟨S1, S2, h1, h2, hd, A.fr hA fun k hk => h k (h1 k hk), Sep.fr hL fun k hk => h k (h2 k hk)⟩
theorem Sep.mono {w : World} : ∀ {L : List HP} {S S' : Nat → Prop}, Sep L w S → (∀ k, S k → S' k) → Sep L w S'
 | [], _, _, _, _ => trivial
 | _ :: _, _, _, ⟨S1, S2, h1, h2, hd, hA, hL⟩, h => ⟨S1, S2, fun k hk => h k (h1 k hk), fun k hk => h k (h2 k hk), hd, hA, hL⟩
def pk : Nat → List HP → List HP
 | _, [] => []
 | 0, L => L
 | i + 1, A :: L => match pk i L with
  | [] => [A]
  | B :: M => B :: A :: M
theorem Sep.swap {A B : HP} {L : List HP} {w : World} {S : Nat → Prop} (h : Sep (A :: B :: L) w S) : Sep (B :: A :: L) w S := by
 obtain ⟨S1, S2, h1, h2, hd, hA, S3, S4, h3, h4, hd', hB, hL⟩ := h
 exact ⟨S3, fun k => S1 k ∨ S4 k, fun k hk => h2 k (h3 k hk), fun k hk => hk.elim (h1 k) (fun q => h2 k (h4 k q)),
  fun k hk hq => hq.elim (fun q => hd k q (h3 k hk)) (fun q => hd' k hk q), hB, S1, S4, fun k hk => .inl hk, fun k hk => .inr hk,
  fun k hk q => hd k hk (h4 k q), hA, hL⟩
theorem Sep.pk {w : World} : ∀ (i : Nat) {L : List HP} {S : Nat → Prop}, Sep L w S → Sep (pk i L) w S
 | 0, [], _, h => h
 | _ + 1, [], _, h => h
 | 0, _ :: _, _, h => h
 | i + 1, A :: L, S, ⟨S1, S2, h1, h2, hd, hA, hL⟩ => by
  have ih := Sep.pk i hL
  simp only [E.pk]
  split
  ·exact ⟨S1, S2, h1, h2, hd, hA, trivial⟩
  ·rename_i B M e
   rw [e] at ih
   exact Sep.swap ⟨S1, S2, h1, h2, hd, hA, ih⟩
section
variable {r w w' : World} {L L' : List HP} {A B : HP}
theorem SH.pk (h : SH r L w) (i : Nat) : SH r (pk i L) w := ⟨h.os, h.tape, h.output, h.sep.pk i⟩
theorem SH.tail (h : SH r (A :: L) w) : SH r L w := by
 obtain ⟨S1, S2, h1, h2, hd, hA, hL⟩ := h.sep
 exact ⟨h.os, h.tape, h.output, hL.mono h2⟩
theorem SH.drop (h : SH r L w) (i : Nat) : SH r (E.pk i L).tail w := by
 have h' := h.pk i
 cases hp : E.pk i L with
 | nil => rw [hp] at h'; exact h'
 | cons A M => rw [hp] at h'; exact h'.tail
theorem SH.head (h : SH r (A :: L) w) : ∃ S1 S2 : Nat → Prop, (∀ k, S1 k → k < w.heap.size) ∧ (∀ k, S2 k → k < w.heap.size) ∧ (∀ k, S1 k → ¬ S2 k) ∧ A.P w S1 ∧ Sep L w S2 := h.sep
theorem SH.upd (h : SH r (A :: L) w) {S1 S2 : Nat → Prop} (h1 : ∀ k, S1 k → k < w.heap.size) (h2 : ∀ k, S2 k → k < w.heap.size) (hd : ∀ k, S1 k → ¬ S2 k) (hL : Sep L w S2)
  (ho : w'.os = w.os) (ht : w'.tape = w.tape) (hp : w'.output = w.output) (hs : w.heap.size ≤ w'.heap.size)
  (hk : ∀ k, k < w.heap.size → ¬ S1 k → w'.heap[k]? = w.heap[k]?)
  {Ls : List HP} (hB : ∀ S : Nat → Prop, (∀ k, S1 k → S k) → (∀ k, w.heap.size ≤ k → k < w'.heap.size → S k) → (∀ k, S k → k < w'.heap.size) → Sep Ls w' S) :
  SH r (Ls ++ L) w' := by
 refine ⟨ho.trans h.os, ht.trans h.tape, hp.trans h.output, ?_⟩
 have hL' : Sep L w' S2 := hL.fr fun k hk2 => hk k (h2 k hk2) fun hk1 => hd k hk1 hk2
 have hB' : Sep Ls w' (fun k => (S1 k ∨ w.heap.size ≤ k) ∧ k < w'.heap.size) := hB _ (fun k q => ⟨.inl q, by have := h1 k q; omega⟩) (fun k q q' => ⟨.inr q, q'⟩) (fun k q => q.2)
 have hd' : ∀ k, ((S1 k ∨ w.heap.size ≤ k) ∧ k < w'.heap.size) → ¬ S2 k := fun k q q2 => q.1.elim (fun q1 => hd k q1 q2) (fun q1 => by have := h2 k q2; omega)
 have key : ∀ (Ls : List HP) (T : Nat → Prop), (∀ k, T k → k < w'.heap.size) → (∀ k, T k → ¬ S2 k) → Sep Ls w' T → Sep (Ls ++ L) w' (fun k => T k ∨ S2 k) := by
  intro Ls
  induction Ls with
  | nil => intro T _ _ _; exact hL'.mono fun k q => .inr q
  | cons C Ls ih =>
   intro T hT hdT hC
   obtain ⟨T1, T2, q1, q2, qd, qC, qL⟩ := hC
   exact ⟨T1, fun k => T2 k ∨ S2 k, fun k q => .inl (q1 k q), fun k q => q.elim (fun q => .inl (q2 k q)) .inr,
    fun k q q' => q'.elim (qd k q) (hdT k (q1 k q)), qC, ih T2 (fun k q => hT k (q2 k q)) (fun k q => hdT k (q2 k q)) qL⟩
 exact (key Ls _ (fun k q => q.2) hd' hB').mono fun k q => q.elim (fun q => q.2) (fun q => by have := h2 k q; omega)
theorem SH.keep (h : SH r L w) (ho : w'.os = w.os) (ht : w'.tape = w.tape) (hp : w'.output = w.output) (hs : w.heap.size ≤ w'.heap.size)
  (hk : ∀ k, k < w.heap.size → w'.heap[k]? = w.heap[k]?) : SH r L w' :=
 ⟨ho.trans h.os, ht.trans h.tape, hp.trans h.output, (h.sep.fr hk).mono fun k q => by omega⟩
theorem SH.drew (h : SH r L w) : SH r L w.drew := h.keep rfl rfl rfl (Nat.le_refl _) fun _ _ => rfl
end
def iter {σ τ : Type} (b : σ → Option (σ ⊕ τ)) : Nat → σ → Option τ
 | 0, _ => none
 | k + 1, s => match b s with
  | none => none
  | some (.inl s') => iter b k s'
  | some (.inr t) => some t
open Classical in
noncomputable def loop {σ τ : Type} (b : σ → Option (σ ⊕ τ)) (s : σ) : Option τ :=
 if h : ∃ k t, iter b k s = some t then some h.choose_spec.choose else none
section
variable {σ τ : Type} {b : σ → Option (σ ⊕ τ)} {s : σ} {t : τ}
theorem iter_more {k : Nat} : ∀ {s : σ}, iter b k s = some t → ∀ j, k ≤ j → iter b j s = some t := by
 induction k with
 | zero => intro s h; cases h
 | succ k ih =>
  intro s h j hj
  obtain ⟨j, rfl⟩ : ∃ m, j = m + 1 := ⟨j - 1, by omega⟩
  simp only [iter] at h ⊢
  cases e : b s with
  | none => rw [e] at h; cases h
  | some x =>
   rw [e] at h
   cases x with
   | inl s' => exact ih h j (by omega)
   | inr t' => exact h
theorem loop_iff : loop b s = some t ↔ ∃ k, iter b k s = some t := by
 unfold loop
 constructor
 ·intro h
  split at h
  ·rename_i hx
   cases h
   exact ⟨hx.choose, hx.choose_spec.choose_spec⟩
  ·cases h
 ·rintro ⟨k, hk⟩
  have hx : ∃ k t, iter b k s = some t := ⟨k, t, hk⟩
  rw [dif_pos hx]
  have h1 := iter_more hx.choose_spec.choose_spec (max k hx.choose) (Nat.le_max_right _ _)
  have h2 := iter_more hk (max k hx.choose) (Nat.le_max_left _ _)
  rw [h1] at h2
  exact h2
theorem loop_nxt {s' : σ} (hb : b s = some (.inl s')) : loop b s = loop b s' := by
 cases h : loop b s' with
 | some t =>
  obtain ⟨k, hk⟩ := loop_iff.1 h
  exact loop_iff.2 ⟨k + 1, by simp only [iter, hb]; exact hk⟩
 | none =>
  cases h' : loop b s with
  | none => rfl
  | some t =>
   obtain ⟨k, hk⟩ := loop_iff.1 h'
   cases k with
   | zero => cases hk
   | succ k =>
    simp only [iter, hb] at hk
    rw [loop_iff.2 ⟨k, hk⟩] at h
    cases h
theorem loop_end (hb : b s = some (.inr t)) : loop b s = some t := loop_iff.2 ⟨1, by simp only [iter, hb]⟩
theorem loop_good (I : σ → Prop) (μ : σ → Nat) (R : τ → Prop) (h0 : I s)
  (round : ∀ s, I s → (∃ s', b s = some (.inl s') ∧ I s' ∧ μ s' < μ s) ∨ ∃ t, b s = some (.inr t) ∧ R t) : ∃ t, loop b s = some t ∧ R t := by
 generalize hn : μ s = n
 induction n using Nat.strongRecOn generalizing s with
 | _ n ih =>
  rcases round s h0 with ⟨s', hb, hI, hlt⟩ | ⟨t, hb, hR⟩
  ·obtain ⟨t, ht, hR⟩ := ih (μ s') (by omega) hI rfl
   exact ⟨t, (loop_nxt hb).trans ht, hR⟩
  ·exact ⟨t, loop_end hb, hR⟩
end
theorem wp_loop_fn {σ τ : Type} {P : Program} {c : Code} {Q : Exit → Act → World → Prop} {b : σ → Option (σ ⊕ τ)} {s0 : σ} {t : τ} (h : loop b s0 = some t)
  (Lab : σ → Act → World → Prop) {a : Act} {w : World} (h0 : Lab s0 a w)
  (round : ∀ (N : σ → Prop) (s : σ) (o : σ ⊕ τ), b s = some o → (∀ s', o = .inl s' → N s') → (∀ t', o = .inr t' → t' = t) → ∀ a w, Lab s a w →
   c.wp P (Exit.then (fun a w => ∃ s', N s' ∧ Lab s' a w) Q) a w) : (Code.loop c).wp P Q a w := by
 obtain ⟨k, hk⟩ := loop_iff.1 h
 refine wp_loop_rounds k ?_
 clear h
 induction k generalizing s0 a w with
 | zero => cases hk
 | succ k ih =>
  rw [rounds_succ]
  simp only [iter] at hk
  split at hk
  ·cases hk
  ·rename_i s' e
   refine Code.wp_mono (fun ex a w q => ?_) (round (fun s'' => iter b k s'' = some t) s0 _ e (fun s'' h => by cases h; exact hk) (fun t' h => by cases h) a w h0)
   cases ex <;> try exact q
   obtain ⟨s'', hN, hL⟩ := q
   exact ih hL hN
  ·rename_i t' e
   cases hk
   refine Code.wp_mono (fun ex a w q => ?_) (round (fun _ => False) s0 _ e (fun s'' h => by cases h) (fun t'' h => by cases h; rfl) a w h0)
   cases ex <;> try exact q
   obtain ⟨s'', hN, hL⟩ := q
   exact hN.elim
structure Kd (α : Type) where
 sz : Nat
 V : α → List Value → Prop
 len : ∀ {x cs}, V x cs → cs.length = sz
 one : ∀ {x cs}, V x cs → ∀ v ∈ cs, v.oneCell' = true
def Lay {α : Type} (d : Kd α) : List α → List Value → Prop
 | [], cs => cs = []
 | x :: xs, cs => ∃ c1 c2, cs = c1 ++ c2 ∧ d.V x c1 ∧ Lay d xs c2
def RdA {α : Type} (d : Kd α) (w : World) (ad : Addr) (xs : List α) : Prop :=
 ∀ j x, xs[j]? = some x → ∃ cs, d.V x cs ∧ ∀ q u, cs[q]? = some u → w.cell? (ad.add (j * d.sz + q)) = some u
def Rd {α : Type} (d : Kd α) (w : World) (A : Option Addr) (xs : List α) : Prop := 0 < xs.length → ∃ ad, A = some ad ∧ RdA d w ad xs
theorem add_block (a : Addr) (n : Nat) : (a.add n).block = a.block := by unfold Addr.add; split <;> rfl
theorem add_add' (a : Addr) (i j : Nat) : (a.add i).add j = a.add (i + j) := by
 unfold Addr.add
 by_cases hi : i = 0 <;> by_cases hj : j = 0 <;> simp [hi, hj, Nat.add_assoc]
theorem add_zero' (a : Addr) : a.add 0 = a := by simp [Addr.add]
theorem add_mk (g i j : Nat) : (⟨g, i, none⟩ : Addr).add j = ⟨g, i + j, none⟩ := by unfold Addr.add; split <;> simp_all
section
variable {α : Type} {d : Kd α}
theorem Lay.length : ∀ {xs : List α} {cs : List Value}, Lay d xs cs → cs.length = xs.length * d.sz
 | [], _, h => by cases h; simp
 | x :: xs, _, ⟨c1, c2, e, hV, hL⟩ => by rw [e, List.length_append, d.len hV, Lay.length hL, List.length_cons, Nat.add_mul]; omega
theorem Lay.one : ∀ {xs : List α} {cs : List Value}, Lay d xs cs → ∀ v ∈ cs, v.oneCell' = true
 | [], _, h => by cases h; simp
 | x :: xs, _, ⟨c1, c2, e, hV, hL⟩ => by
  subst e
  intro v hv
  rcases List.mem_append.1 hv with h | h
  ·exact d.one hV v h
  ·exact Lay.one hL v h
theorem Lay.append : ∀ {xs ys : List α} {c1 c2 : List Value}, Lay d xs c1 → Lay d ys c2 → Lay d (xs ++ ys) (c1 ++ c2)
 | [], _, _, _, h, h2 => by cases h; exact h2
 | x :: xs, ys, _, c2, ⟨q1, q2, e, hV, hL⟩, h2 => ⟨q1, q2 ++ c2, by rw [e, List.append_assoc], hV, Lay.append hL h2⟩
theorem Lay.get : ∀ {xs : List α} {cs : List Value}, Lay d xs cs → ∀ {j : Nat} {x : α}, xs[j]? = some x → ∃ c, d.V x c ∧ ∀ q u, c[q]? = some u → cs[j * d.sz + q]? = some u
 | [], _, _, j, x, h => by simp at h
 | y :: xs, _, ⟨c1, c2, e, hV, hL⟩, j, x, h => by
  subst e
  cases j with
  | zero =>
   simp only [List.getElem?_cons_zero, Option.some.injEq] at h
   subst h
   refine ⟨c1, hV, fun q u hu => ?_⟩
   have hq : q < c1.length := (List.getElem?_eq_some_iff.1 hu).1
   rw [Nat.zero_mul, Nat.zero_add, List.getElem?_append_left hq]
   exact hu
  | succ j =>
   obtain ⟨c, hc, hg⟩ := Lay.get hL (j := j) (x := x) (by simpa using h)
   refine ⟨c, hc, fun q u hu => ?_⟩
   have := d.len hV
   rw [List.getElem?_append_right (by rw [this, Nat.add_mul]; omega), this]
   rw [show (j + 1) * d.sz + q - d.sz = j * d.sz + q by rw [Nat.add_mul]; omega]
   exact hg q u hu
theorem Lay.set : ∀ {xs : List α} {cs : List Value}, Lay d xs cs → ∀ {j : Nat} {x : α} {c : List Value}, j < xs.length → d.V x c →
  Lay d (xs.set j x) (cs.take (j * d.sz) ++ c ++ cs.drop (j * d.sz + d.sz))
 | [], _, _, j, x, c, h, _ => by simp at h
 | y :: xs, _, ⟨c1, c2, e, hV, hL⟩, j, x, c, h, hc => by
  subst e
  have hl := d.len hV
  cases j with
  | zero =>
   refine ⟨c, c2, ?_, hc, hL⟩
   simp only [Nat.zero_mul, List.take_zero, List.nil_append, Nat.zero_add]
   rw [← hl, List.drop_append_of_le_length (Nat.le_refl _), List.drop_length, List.nil_append]
  | succ j =>
   refine ⟨c1, _, ?_, hV, Lay.set hL (j := j) (by simpa using h) hc⟩
   have e1 : (j + 1) * d.sz = c1.length + j * d.sz := by rw [hl, Nat.add_mul]; omega
   rw [e1, List.take_append, List.take_of_length_le (by omega), Nat.add_sub_cancel_left, Nat.add_assoc, List.drop_append, List.drop_eq_nil_of_le (by omega), List.nil_append, Nat.add_sub_cancel_left]
   simp [List.append_assoc]
theorem Lay.take : ∀ {xs : List α} {cs : List Value}, Lay d xs cs → ∀ m, Lay d (xs.take m) (cs.take (m * d.sz))
 | [], _, h, m => by cases h; simp [Lay]
 | x :: xs, _, ⟨c1, c2, e, hV, hL⟩, 0 => by simp [Lay]
 | x :: xs, _, ⟨c1, c2, e, hV, hL⟩, m + 1 => by
  subst e
  have hl := d.len hV
  refine ⟨c1, _, ?_, hV, Lay.take hL m⟩
  rw [show (m + 1) * d.sz = c1.length + m * d.sz by rw [hl, Nat.add_mul]; omega, List.take_append, List.take_of_length_le (by omega), Nat.add_sub_cancel_left]
theorem Lay.drop : ∀ {xs : List α} {cs : List Value}, Lay d xs cs → ∀ m, Lay d (xs.drop m) (cs.drop (m * d.sz))
 | [], _, h, m => by cases h; simp [Lay]
 | x :: xs, cs, h, 0 => by simpa using h
 | x :: xs, _, ⟨c1, c2, e, hV, hL⟩, m + 1 => by
  subst e
  have hl := d.len hV
  show Lay d (xs.drop m) _
  rw [show (m + 1) * d.sz = c1.length + m * d.sz by rw [hl, Nat.add_mul]; omega, List.drop_append, List.drop_eq_nil_of_le (show c1.length ≤ c1.length + m * d.sz by omega), List.nil_append, Nat.add_sub_cancel_left]
  exact Lay.drop hL m
theorem Lay.of_cells {w : World} {ad : Addr} : ∀ {xs : List α} {k : Nat}, (∀ j x, xs[j]? = some x → ∃ cs, d.V x cs ∧ ∀ q u, cs[q]? = some u → w.cell? (ad.add ((k + j) * d.sz + q)) = some u) →
  ∃ cs, Lay d xs cs ∧ ∀ q u, cs[q]? = some u → w.cell? (ad.add (k * d.sz + q)) = some u
 | [], k, _ => ⟨[], rfl, fun q u h => by simp at h⟩
 | x :: xs, k, h => by
  obtain ⟨c1, hV, hc⟩ := h 0 x rfl
  obtain ⟨c2, hL, hc2⟩ := Lay.of_cells (xs := xs) (k := k + 1) (fun j y hy => by
   obtain ⟨cs, hV, hc⟩ := h (j + 1) y (by simpa using hy)
   exact ⟨cs, hV, fun q u hu => by have := hc q u hu; rwa [show k + (j + 1) = k + 1 + j by omega] at this⟩)
  refine ⟨c1 ++ c2, ⟨c1, c2, rfl, hV, hL⟩, fun q u hu => ?_⟩
  have hl := d.len hV
  rcases Nat.lt_or_ge q c1.length with hq | hq
  ·rw [List.getElem?_append_left hq] at hu
   exact hc q u hu
  ·rw [List.getElem?_append_right hq] at hu
   have := hc2 _ u hu
   rwa [show (k + 1) * d.sz + (q - c1.length) = k * d.sz + q by rw [Nat.add_mul]; omega] at this
theorem RdA.cells {w : World} {ad : Addr} {xs : List α} (h : RdA d w ad xs) : ∃ cs, Lay d xs cs ∧ ∀ q u, cs[q]? = some u → w.cell? (ad.add q) = some u := by
 obtain ⟨cs, hL, hc⟩ := Lay.of_cells (k := 0) (fun j x hx => by simpa using h j x hx)
 exact ⟨cs, hL, fun q u hu => by simpa using hc q u hu⟩
theorem RdA.of_lay {w : World} {ad : Addr} {xs : List α} {cs : List Value} (h : Lay d xs cs) (hc : ∀ q u, cs[q]? = some u → w.cell? (ad.add q) = some u) : RdA d w ad xs := by
 intro j x hx
 obtain ⟨c, hV, hg⟩ := h.get hx
 exact ⟨c, hV, fun q u hu => hc _ u (hg q u hu)⟩
theorem RdA.drop {w : World} {ad : Addr} {xs : List α} (h : RdA d w ad xs) (m : Nat) : RdA d w (ad.add (m * d.sz)) (xs.drop m) := by
 intro j x hx
 obtain ⟨cs, hV, hc⟩ := h (m + j) x (by simpa using hx)
 exact ⟨cs, hV, fun q u hu => by rw [add_add', show m * d.sz + (j * d.sz + q) = (m + j) * d.sz + q by rw [Nat.add_mul]; omega]; exact hc q u hu⟩
theorem RdA.take {w : World} {ad : Addr} {xs : List α} (h : RdA d w ad xs) (m : Nat) : RdA d w ad (xs.take m) := by
 intro j x hx
 rw [List.getElem?_take] at hx
 split at hx
 ·exact h j x hx
 ·cases hx
theorem Rd.cut {w : World} {A : Option Addr} {xs : List α} (h : Rd d w A xs) {l u m : Nat} (hlu : l ≤ u) (hu : u ≤ xs.length) (hm : u ≤ m) :
  Rd d w (if m = l then A else A.map (·.add (l * d.sz))) ((xs.take u).drop l) := by
 intro hpos
 have hl : l < u := by simp at hpos; omega
 obtain ⟨ad, rfl, hr⟩ := h (by omega)
 rw [if_neg (by omega)]
 exact ⟨_, rfl, (hr.take u).drop l⟩
end
def blk (g : Nat) (T : TypeId) (cs : List Value) : HP where
 P w S := S g ∧ w.heap[g]? = some (.cells cs.toArray T (0, 0))
 fr h hk := ⟨h.1, (hk _ h.1).trans h.2⟩
 mono h hs := ⟨hs _ h.1, h.2⟩
def zone (Z : Nat → Prop) (wz : World) : HP where
 P w S := (∀ k, Z k → S k) ∧ ∀ k, Z k → w.heap[k]? = wz.heap[k]?
 fr h hk := ⟨h.1, fun k z => (hk k (h.1 k z)).trans (h.2 k z)⟩
 mono h hs := ⟨fun k z => hs k (h.1 k z), h.2⟩
theorem ownsRow_of_block {w w' : World} {base : Nat} {e : TypeId} {sz n : Nat} {v : Value} {xs : List Value} (h : w.ownsRow base e sz v n xs) (hk : ∀ g, v.ownBlock = some g → w'.heap[g]? = w.heap[g]?) : w'.ownsRow base e sz v n xs := by
 refine ⟨h.1, ?_⟩
 rcases h.2 with h2 | ⟨g, cap, cur, rfl, hg, hh, r⟩
 ·exact .inl h2
 ·exact .inr ⟨g, cap, cur, rfl, hg, (hk g rfl).trans hh, r⟩
def own0 {α : Type} (d : Kd α) (e : TypeId) (A : Option Addr) (c : Nat) (xs : List α) (w : World) (S : Nat → Prop) : Prop :=
 (∃ inner, Lay d xs inner ∧ w.ownsRow 0 e d.sz (.slice A xs.length c) xs.length inner) ∧ ∀ g, (Value.slice A xs.length c).ownBlock = some g → S g
def own {α : Type} (d : Kd α) (e : TypeId) (A : Option Addr) (n c : Nat) (xs : List α) : HP where
 P w S := xs.length = n ∧ own0 d e A c xs w S
 fr h hk := by
  obtain ⟨hn, ⟨inner, hL, ho⟩, hS⟩ := h
  exact ⟨hn, ⟨inner, hL, ownsRow_of_block ho fun g hg => hk g (hS g hg)⟩, hS⟩
 mono h hs := ⟨h.1, h.2.1, fun g hg => hs g (h.2.2 g hg)⟩
def star (Ls : List HP) : HP where
 P w S := Sep Ls w S
 fr h hk := h.fr hk
 mono h hs := h.mono hs
def ex {ι : Type} (f : ι → HP) : HP where
 P w S := ∃ i, (f i).P w S
 fr h hk := h.elim fun i h => ⟨i, (f i).fr h hk⟩
 mono h hs := h.elim fun i h => ⟨i, (f i).mono h hs⟩
def pure' (p : Prop) : HP where
 P _ _ := p
 fr h _ := h
 mono h _ := h
section
variable {r w w' : World} {L : List HP} {α : Type} {d : Kd α} {e : TypeId} {A : Option Addr} {n c : Nat} {xs : List α}
theorem ownsRow_reads {w : World} {base : Nat} {e : TypeId} {sz n c : Nat} {A : Option Addr} {inner : List Value} (h : w.ownsRow base e sz (.slice A n c) n inner) (hn : 0 < n) :
  ∃ g, A = some ⟨g, 0, none⟩ ∧ g < w.heap.size ∧ ∀ q u, inner[q]? = some u → w.cell? ⟨g, q, none⟩ = some u := by
 rcases h.2 with ⟨_, hn'⟩ | ⟨g, cap, cur, hv, hg, hh, hnc, hcm, hs, ht⟩
 ·omega
 ·injection hv with hA hn' hc
  subst hA
  refine ⟨g, rfl, (Array.getElem?_eq_some_iff.1 hh).1, fun q u hu => ?_⟩
  simp only [World.cell?, hh]
  rw [← ht, List.getElem?_take] at hu
  split at hu
  ·simpa using hu
  ·cases hu
theorem own_rd {S : Nat → Prop} (h : (own d e A n c xs).P w S) : Rd d w A xs := by
 intro hpos
 obtain ⟨hn, ⟨inner, hL, ho⟩, hS⟩ := h
 obtain ⟨g, rfl, hg, hc⟩ := ownsRow_reads ho hpos
 exact ⟨_, rfl, RdA.of_lay hL fun q u hu => by rw [add_mk, Nat.zero_add]; exact hc q u hu⟩
theorem own_le {S : Nat → Prop} (h : (own d e A n c xs).P w S) : xs.length ≤ c ∧ c ≤ maxLen := by
 obtain ⟨hn, ⟨inner, hL, ho⟩, hS⟩ := h
 rcases ho.2 with ⟨hv, hn⟩ | ⟨g, cap, cur, hv, hg, hh, hnc, hcm, hs, ht⟩
 ·injection hv with h1 h2 h3
  omega
 ·injection hv with h1 h2 h3
  omega
theorem own_nil {S : Nat → Prop} : (own d e none 0 0 ([] : List α)).P w S :=
 ⟨rfl, ⟨[], rfl, World.ownsRow_nil _ _ _ _⟩, fun g hg => by simp [Value.ownBlock] at hg⟩
theorem SH.get (h : SH r L w) (i : Nat) {A : HP} (hi : L[i]? = some A) : ∃ S, A.P w S := by
 have key : ∀ (L : List HP) (i : Nat) (S : Nat → Prop), L[i]? = some A → Sep L w S → ∃ S, A.P w S := by
  intro L
  induction L with
  | nil => intro i S hi; simp at hi
  | cons B L ih =>
   intro i S hi hs
   obtain ⟨S1, S2, h1, h2, hd, hB, hL⟩ := hs
   cases i with
   | zero => cases hi; exact ⟨S1, hB⟩
   | succ i => exact ih i S2 (by simpa using hi) hL
 exact key L i _ hi h.sep
theorem Sep.sfx : ∀ (i : Nat) {L : List HP} {S : Nat → Prop}, Sep L w S → Sep (L.drop i) w S
 | 0, _, _, h => h
 | i + 1, [], _, h => h
 | i + 1, A :: L, _, ⟨S1, S2, h1, h2, hd, hA, hL⟩ => (Sep.sfx i hL).mono h2
theorem SH.sfx (h : SH r L w) (i : Nat) : Sep (L.drop i) w (fun k => k < w.heap.size) := Sep.sfx i h.sep
theorem SH.getL (i : Nat) {B : HP} (hi : L[i]? = some B) {S : Nat → Prop} (h : Sep L w S) : ∃ S, B.P w S := by
 have key : ∀ (L : List HP) (i : Nat) (S : Nat → Prop), L[i]? = some B → Sep L w S → ∃ S, B.P w S := by
  intro L
  induction L with
  | nil => intro i S hi; simp at hi
  | cons C L ih =>
   intro i S hi hs
   obtain ⟨S1, S2, h1, h2, hd, hB, hL⟩ := hs
   cases i with
   | zero => cases hi; exact ⟨S1, hB⟩
   | succ i => exact ih i S2 (by simpa using hi) hL
 exact key L i _ hi h
structure RdL (L : List HP) (d : Kd α) (A : Option Addr) (n c : Nat) (xs : List α) : Prop where
 ln : xs.length = n
 le : xs.length ≤ c
 mx : c ≤ maxLen
 rd : ∀ w S, Sep L w S → Rd d w A xs
theorem RdL.own (i : Nat) (hi : L[i]? = some (own d e A n c xs)) (h : SH r L w) : RdL L d A n c xs := by
 obtain ⟨S, hS⟩ := h.get i hi
 refine ⟨hS.1, (own_le hS).1, (own_le hS).2, fun w' S' h' => ?_⟩
 obtain ⟨S2, h2⟩ := SH.getL i hi h'
 exact own_rd h2
theorem RdL.sfx (i : Nat) {L0 : List HP} (hL : L.drop i = L0) (h : RdL L0 d A n c xs) : RdL L d A n c xs :=
 ⟨h.ln, h.le, h.mx, fun w S hs => h.rd w S (hL ▸ Sep.sfx i hs)⟩
theorem RdL.nil : RdL L d none 0 0 ([] : List α) := ⟨rfl, Nat.le_refl _, Nat.zero_le _, fun _ _ _ h => absurd h (by simp)⟩
theorem RdL.cut (h : RdL L d A n c xs) {l u : Nat} (hlu : l ≤ u) (hu : u ≤ xs.length) : RdL L d (if c = l then A else A.map (·.add (l * d.sz))) (u - l) (c - l) ((xs.take u).drop l) :=
 ⟨by simp; omega, by have := h.le; simp; omega, by have := h.mx; omega, fun w S hs => (h.rd w S hs).cut hlu hu (Nat.le_trans hu h.le)⟩
structure Imm (Z : Nat → Prop) (wz : World) (d : Kd α) (A : Option Addr) (n c : Nat) (xs : List α) : Prop where
 ln : xs.length = n
 le : xs.length ≤ c
 mx : c ≤ maxLen
 rd : 0 < xs.length → ∃ ad, A = some ad ∧ Z ad.block ∧ RdA d wz ad xs
theorem RdA.zone {Z : Nat → Prop} {wz : World} {ad : Addr} (h : RdA d wz ad xs) (hz : Z ad.block) {S : Nat → Prop} (hw : (zone Z wz).P w S) : RdA d w ad xs := by
 intro j x hx
 obtain ⟨cs, hV, hc⟩ := h j x hx
 refine ⟨cs, hV, fun q u hu => ?_⟩
 rw [← hc q u hu]
 exact World.cell?_of_block (by rw [add_block]; exact hw.2 _ hz)
theorem Imm.rdl {Z : Nat → Prop} {wz : World} (h : Imm Z wz d A n c xs) (i : Nat) (hi : L[i]? = some (zone Z wz)) : RdL L d A n c xs := by
 refine ⟨h.ln, h.le, h.mx, fun w' S' h' hpos => ?_⟩
 obtain ⟨S2, h2⟩ := SH.getL i hi h'
 obtain ⟨ad, rfl, hz, hr⟩ := h.rd hpos
 exact ⟨ad, rfl, hr.zone hz h2⟩
theorem Imm.nil {Z : Nat → Prop} {wz : World} : Imm Z wz d none 0 0 ([] : List α) := ⟨rfl, Nat.le_refl _, Nat.zero_le _, fun h => absurd h (by simp)⟩
theorem Imm.cut {Z : Nat → Prop} {wz : World} (h : Imm Z wz d A n c xs) {l u : Nat} (hlu : l ≤ u) (hu : u ≤ xs.length) : Imm Z wz d (if c = l then A else A.map (·.add (l * d.sz))) (u - l) (c - l) ((xs.take u).drop l) := by
 refine ⟨by simp; omega, by have := h.le; simp; omega, by have := h.mx; omega, fun hpos => ?_⟩
 have hl : l < u := by simp at hpos; omega
 obtain ⟨ad, rfl, hz, hr⟩ := h.rd (by omega)
 rw [if_neg (by have := h.le; omega)]
 exact ⟨_, rfl, by rw [add_block]; exact hz, (hr.take u).drop l⟩
def Sub (Z : Nat → Prop) (wz : World) (Z' : Nat → Prop) (wz' : World) : Prop := ∀ k, Z k → Z' k ∧ wz'.heap[k]? = wz.heap[k]?
theorem Sub.refl (Z : Nat → Prop) (wz : World) : Sub Z wz Z wz := fun k h => ⟨h, rfl⟩
theorem Sub.trans {Z Z' Z'' : Nat → Prop} {wz wz' wz'' : World} (h : Sub Z wz Z' wz') (h' : Sub Z' wz' Z'' wz'') : Sub Z wz Z'' wz'' :=
 fun k hk => ⟨(h' k (h k hk).1).1, ((h' k (h k hk).1).2).trans (h k hk).2⟩
theorem Imm.sub {Z Z' : Nat → Prop} {wz wz' : World} (h : Imm Z wz d A n c xs) (hs : Sub Z wz Z' wz') : Imm Z' wz' d A n c xs := by
 refine ⟨h.ln, h.le, h.mx, fun hpos => ?_⟩
 obtain ⟨ad, e, hz, hr⟩ := h.rd hpos
 refine ⟨ad, e, (hs _ hz).1, fun j x hx => ?_⟩
 obtain ⟨cs, hV, hc⟩ := hr j x hx
 refine ⟨cs, hV, fun q u hu => ?_⟩
 rw [← hc q u hu]
 exact World.cell?_of_block (by rw [add_block]; exact (hs _ hz).2)
theorem SH.freeze {Z : Nat → Prop} {wz : World} (h : SH r (own d e A n c xs :: zone Z wz :: L) w) :
  ∃ Z' wz', SH r (zone Z' wz' :: L) w ∧ Imm Z' wz' d A n c xs ∧ Sub Z wz Z' wz' := by
 obtain ⟨S1, S2, h1, h2, hd, hA, S3, S4, h3, h4, hd', hB, hL⟩ := h.sep
 refine ⟨fun k => S1 k ∨ S3 k, w, ⟨h.os, h.tape, h.output, fun k => S1 k ∨ S3 k, S4, fun k q => q.elim (h1 k) (fun q => h2 k (h3 k q)), fun k q => h2 k (h4 k q), fun k q q4 => q.elim (fun q => hd k q (h4 k q4)) (fun q => hd' k q q4),
  ⟨fun _ q => q, fun _ _ => rfl⟩, hL⟩, ⟨hA.1, (own_le hA).1, (own_le hA).2, fun hpos => ?_⟩, fun k hk => ⟨.inr (hB.1 k hk), hB.2 k hk⟩⟩
 obtain ⟨ad, e, hr⟩ := own_rd hA hpos
 subst e
 exact ⟨ad, rfl, .inl (hA.2.2 _ rfl), hr⟩
theorem Lay.imp {d' : Kd α} (hd : ∀ x cs, d.V x cs → d'.V x cs) : ∀ {xs : List α} {cs : List Value}, Lay d xs cs → Lay d' xs cs
 | [], _, h => h
 | x :: xs, _, ⟨c1, c2, e, hV, hL⟩ => ⟨c1, c2, e, hd _ _ hV, Lay.imp hd hL⟩
theorem SH.kind {d' : Kd α} (h : SH r (own d e A n c xs :: L) w) (hs : d.sz = d'.sz) (hd : ∀ x cs, d.V x cs → d'.V x cs) : SH r (own d' e A n c xs :: L) w := by
 obtain ⟨S1, S2, h1, h2, hd', ⟨hn, ⟨inner, hL', ho⟩, hS⟩, hL⟩ := h.sep
 exact ⟨h.os, h.tape, h.output, S1, S2, h1, h2, hd', ⟨hn, ⟨inner, hL'.imp hd, by rw [← hs]; exact ho⟩, hS⟩, hL⟩
theorem SH.imp {B C : HP} (h : SH r (B :: L) w) (hi : ∀ S, B.P w S → C.P w S) : SH r (C :: L) w := by
 obtain ⟨S1, S2, h1, h2, hd', hB, hL⟩ := h.sep
 exact ⟨h.os, h.tape, h.output, S1, S2, h1, h2, hd', hi _ hB, hL⟩
theorem SH.unstar {Ls : List HP} (h : SH r (star Ls :: L) w) : SH r (Ls ++ L) w := by
 obtain ⟨S1, S2, h1, h2, hd, hA, hL⟩ := h.sep
 exact h.upd h1 h2 hd hL rfl rfl rfl (Nat.le_refl _) (fun _ _ _ => rfl) fun S hS _ _ => Sep.mono hA hS
theorem Sep.star : ∀ {Ls L : List HP} {S : Nat → Prop}, Sep (Ls ++ L) w S → Sep (star Ls :: L) w S
 | [], L, S, h => ⟨fun _ => False, S, fun _ h => h.elim, fun _ h => h, fun _ h => h.elim, trivial, h⟩
 | B :: Ls, L, S, ⟨S1, S2, h1, h2, hd, hB, hL⟩ => by
  obtain ⟨S3, S4, h3, h4, hd', hs, hL'⟩ := Sep.star (Ls := Ls) hL
  exact ⟨fun k => S1 k ∨ S3 k, S4, fun k q => q.elim (h1 k) (fun q => h2 k (h3 k q)), fun k q => h2 k (h4 k q), fun k q q4 => q.elim (fun q => hd k q (h4 k q4)) (fun q => hd' k q q4),
   ⟨S1, S3, fun _ => .inl, fun _ => .inr, fun k q q3 => hd k q (h3 k q3), hB, hs⟩, hL'⟩
theorem SH.star {Ls : List HP} (h : SH r (Ls ++ L) w) : SH r (star Ls :: L) w := ⟨h.os, h.tape, h.output, Sep.star h.sep⟩
theorem SH.unex {ι : Type} {f : ι → HP} (h : SH r (ex f :: L) w) : ∃ i, SH r (f i :: L) w := by
 obtain ⟨S1, S2, h1, h2, hd, ⟨i, hA⟩, hL⟩ := h.sep
 exact ⟨i, h.os, h.tape, h.output, S1, S2, h1, h2, hd, hA, hL⟩
theorem SH.ex {ι : Type} {f : ι → HP} (i : ι) (h : SH r (f i :: L) w) : SH r (ex f :: L) w := h.imp fun _ h => ⟨i, h⟩
theorem SH.nil_own (h : SH r L w) : SH r (own d e none 0 0 ([] : List α) :: L) w :=
 ⟨h.os, h.tape, h.output, fun _ => False, _, fun _ h => h.elim, fun _ h => h, fun _ h => h.elim, own_nil, h.sep⟩
end
def RunV (P : Program) (o : Oper) (a : Act) (w : World) (v : Value) : Prop := (execOp a.eval o).run P w = .ok (.value v) w
section
variable {P : Program} {ops : Array Oper} {Q : Exit → Act → World → Prop} {rest : List Oper} {o : Oper} {a : Act} {w : World} {K : Act → World → Prop}
 {n : Nat} {D : List Deferred} {F : List (Nat × Value)} {r : World} {L : List HP}
theorem RunV.wp {v : Value} (h : RunV P o a w v) (hK : K (a.put o.dst v) w) : o.wp P a w K Q := by
 unfold Oper.wp
 rw [show (execOp a.eval o).run P w = _ from h]
 exact hK
theorem wl_eff (hg : o.guard = none) (h : ∀ K : Act → World → Prop, (∀ a w, wpList P ops Q rest a w → K a w) → o.wp P a w K Q) : wpList P ops Q (o :: rest) a w := wpList_plain hg h
theorem wl {t : Nat} {v : Value} (hA : FR n D a F) (hd : o.dst = some t) (hg : o.guard = none) (ht : t < n) (h : RunV P o a w v)
  (k : ∀ a', FR n D a' ((t, v) :: F) → wpList P ops Q rest a' w) : wpList P ops Q (o :: rest) a w :=
 wpList_plain hg fun K hK => h.wp (hK _ _ (k _ (by rw [hd]; exact hA.put t v ht)))
theorem yielded_of {tmps : Array Value} {j : Nat} {t : Nat} {b : Bool} (hj : (ops[j]?).bind (·.dst) = some t) (hv : tmps[t]? = some (.bool b)) : yielded ops tmps j = some b := by
 unfold yielded
 cases ho : ops[j]? with
 | none => rw [ho] at hj; cases hj
 | some o' =>
  rw [ho] at hj
  simp only [Option.bind_some] at hj
  simp [hj, hv]
theorem wl_on {j t : Nat} {b : Bool} (hA : FR n D a F) (hg : o.guard = some (j, b)) (hj : (ops[j]?).bind (·.dst) = some t) (hv : lk F t = some (.bool b))
  (h : wpList P ops Q ({ o with guard := none } :: rest) a w) : wpList P ops Q (o :: rest) a w := by
 have hy := yielded_of (ops := ops) hj (hA.at_ t _ hv)
 unfold wpList at h ⊢
 rw [if_pos (by simp [Region.wanted])] at h
 rw [if_pos (by simp [Region.wanted, hg, hy])]
 exact h
theorem wl_off {j t : Nat} {b b' : Bool} {t' : Nat} (hA : FR n D a F) (hg : o.guard = some (j, b)) (hj : (ops[j]?).bind (·.dst) = some t) (hv : lk F t = some (.bool b')) (hb : (b' == b) = false) (hd : o.dst = some t') (ht : t' < n)
  (k : ∀ a', FR n D a' ((t', undef) :: F) → wpList P ops Q rest a' w) : wpList P ops Q (o :: rest) a w := by
 have hy := yielded_of (ops := ops) hj (hA.at_ t _ hv)
 unfold wpList
 rw [if_neg (by simp only [Region.wanted, hg, hy]; intro h; simp at h hb; exact hb h)]
 exact k _ (by rw [hd]; exact hA.put t' _ ht)
theorem r_move {x : Operand} {v : Value} (ho : o.op = .move x) (hx : a.eval x = v) : RunV P o a w v := by unfold RunV execOp; rw [ho, ← hx]; rfl
theorem r_assign {x : Operand} {v : Value} (ho : o.op = .assign x) (hx : a.eval x = v) : RunV P o a w v := by unfold RunV execOp; rw [ho, ← hx]; rfl
theorem r_pick_t {c x y : Operand} {v : Value} (ho : o.op = .pick c x y) (hc : a.eval c = .bool true) (hx : a.eval x = v) : RunV P o a w v := by
 unfold RunV execOp; rw [ho]; simp only [hc, hx]; rfl
theorem r_pick_f {c x y : Operand} {v : Value} (ho : o.op = .pick c x y) (hc : a.eval c = .bool false) (hy : a.eval y = v) : RunV P o a w v := by
 unfold RunV execOp; rw [ho]; simp only [hc, hy]; rfl
theorem r_bin {op : BinOp} {x y : Operand} {xt yt : TypeId} {vx vy v : Value} (ho : o.op = .binOp op xt x y yt) (hx : a.eval x = vx) (hy : a.eval y = vy)
  (hr : ∀ w, ((do eqGuard op xt x y vx vy; binOp op xt vx vy : Sem Value)).run P w = .ok v w) : RunV P o a w v := by
 unfold RunV execOp; rw [ho]; simp only [hx, hy]
 have := hr w
 simp only [Sem.run_bind, Sem.run_pure] at this ⊢
 rw [this]; rfl
theorem equal_of {t : TypeId} {x y : Value} {b : Bool} (h : ∀ d, (Op.equalIn (d + 1) t x y).run P w = .ok b w) : (Op.equal t x y).run P w = .ok b w := h 9999
section ints
variable {x y : Operand} {xt yt : TypeId} {k : IntKind} {i j : Int}
theorem r_add (ho : o.op = .binOp .add xt x y yt) (hx : a.eval x = .int k i) (hy : a.eval y = .int k j) : RunV P o a w (.int k (k.wrap (i + j))) := r_bin ho hx hy fun _ => by cases k <;> rfl
theorem r_sub (ho : o.op = .binOp .sub xt x y yt) (hx : a.eval x = .int k i) (hy : a.eval y = .int k j) : RunV P o a w (.int k (k.wrap (i - j))) := r_bin ho hx hy fun _ => by cases k <;> rfl
theorem r_mul (ho : o.op = .binOp .mul xt x y yt) (hx : a.eval x = .int k i) (hy : a.eval y = .int k j) : RunV P o a w (.int k (k.wrap (i * j))) := r_bin ho hx hy fun _ => by cases k <;> rfl
theorem r_quo (ho : o.op = .binOp .quo xt x y yt) (hx : a.eval x = .int k i) (hy : a.eval y = .int k j) (h0 : j ≠ 0) : RunV P o a w (.int k (k.wrap (i.tdiv j))) :=
 r_bin ho hx hy fun _ => by cases k <;> simp [eqGuard, binOp, Op.intDiv, h0]
theorem r_rem (ho : o.op = .binOp .rem xt x y yt) (hx : a.eval x = .int k i) (hy : a.eval y = .int k j) (h0 : j ≠ 0) : RunV P o a w (.int k (i.tmod j)) :=
 r_bin ho hx hy fun _ => by cases k <;> simp [eqGuard, binOp, Op.intDiv, h0]
def iand (k : IntKind) (i j : Int) : Int := k.wrap ((BitVec.ofInt k.bits i &&& BitVec.ofInt k.bits j).toNat)
def ior (k : IntKind) (i j : Int) : Int := k.wrap ((BitVec.ofInt k.bits i ||| BitVec.ofInt k.bits j).toNat)
def ixor (k : IntKind) (i j : Int) : Int := k.wrap ((BitVec.ofInt k.bits i ^^^ BitVec.ofInt k.bits j).toNat)
def ishl (k : IntKind) (i j : Int) : Int := k.wrap (i * 2 ^ (min j.toNat k.bits))
def ishr (k : IntKind) (i j : Int) : Int := i.fdiv (2 ^ (min j.toNat k.bits))
theorem r_and (ho : o.op = .binOp .and xt x y yt) (hx : a.eval x = .int k i) (hy : a.eval y = .int k j) : RunV P o a w (.int k (iand k i j)) := r_bin ho hx hy fun _ => by cases k <;> rfl
theorem r_or (ho : o.op = .binOp .or xt x y yt) (hx : a.eval x = .int k i) (hy : a.eval y = .int k j) : RunV P o a w (.int k (ior k i j)) := r_bin ho hx hy fun _ => by cases k <;> rfl
theorem r_xor (ho : o.op = .binOp .xor xt x y yt) (hx : a.eval x = .int k i) (hy : a.eval y = .int k j) : RunV P o a w (.int k (ixor k i j)) := r_bin ho hx hy fun _ => by cases k <;> rfl
theorem r_shl {k' : IntKind} (ho : o.op = .binOp .shl xt x y yt) (hx : a.eval x = .int k i) (hy : a.eval y = .int k' j) (h0 : 0 ≤ j) : RunV P o a w (.int k (ishl k i j)) :=
 r_bin ho hx hy fun _ => by simp [eqGuard, binOp, Op.shift, ishl, Int.not_lt.2 h0]
theorem r_shr {k' : IntKind} (ho : o.op = .binOp .shr xt x y yt) (hx : a.eval x = .int k i) (hy : a.eval y = .int k' j) (h0 : 0 ≤ j) : RunV P o a w (.int k (ishr k i j)) :=
 r_bin ho hx hy fun _ => by simp [eqGuard, binOp, Op.shift, ishr, Int.not_lt.2 h0]
theorem r_eqI (ho : o.op = .binOp .eql xt x y yt) (hx : a.eval x = .int k i) (hy : a.eval y = .int k j) : RunV P o a w (.bool (i == j)) := r_bin ho hx hy fun _ => by cases k <;> rfl
theorem r_neI (ho : o.op = .binOp .neq xt x y yt) (hx : a.eval x = .int k i) (hy : a.eval y = .int k j) : RunV P o a w (.bool (i != j)) := r_bin ho hx hy fun _ => by cases k <;> rfl
theorem r_ltI (ho : o.op = .binOp .lss xt x y yt) (hx : a.eval x = .int k i) (hy : a.eval y = .int k j) : RunV P o a w (.bool (decide (i < j))) := r_bin ho hx hy fun _ => by cases k <;> rfl
theorem r_leI (ho : o.op = .binOp .leq xt x y yt) (hx : a.eval x = .int k i) (hy : a.eval y = .int k j) : RunV P o a w (.bool (decide (i ≤ j))) := r_bin ho hx hy fun _ => by cases k <;> rfl
theorem r_gtI (ho : o.op = .binOp .gtr xt x y yt) (hx : a.eval x = .int k i) (hy : a.eval y = .int k j) : RunV P o a w (.bool (decide (j < i))) := r_bin ho hx hy fun _ => by cases k <;> rfl
theorem r_geI (ho : o.op = .binOp .geq xt x y yt) (hx : a.eval x = .int k i) (hy : a.eval y = .int k j) : RunV P o a w (.bool (decide (j ≤ i))) := r_bin ho hx hy fun _ => by cases k <;> rfl
theorem r_eqB {b c : Bool} (hu : P.underlying xt = some .bool) (ho : o.op = .binOp .eql xt x y yt) (hx : a.eval x = .bool b) (hy : a.eval y = .bool c) : RunV P o a w (.bool (b == c)) :=
 r_bin ho hx hy fun w => by
  show (do pure (.bool (← Op.equal xt (.bool b) (.bool c))) : Sem Value).run P w = _
  rw [Sem.run_bind, equal_of (b := (b == c)) fun d => by simp [Op.equalIn, run_underlying hu]]; rfl
theorem r_eqNilP {e : TypeId} {p : Option Addr} (hu : P.underlying xt = some (.pointer e)) (ho : o.op = .binOp .eql xt x y yt) (hx : a.eval x = .pointer p) (hy : a.eval y = .pointer none) : RunV P o a w (.bool p.isNone) :=
 r_bin ho hx hy fun w => by
  show (do pure (.bool (← Op.equal xt (.pointer p) (.pointer none))) : Sem Value).run P w = _
  rw [Sem.run_bind, equal_of (b := p.isNone) fun d => by cases p <;> simp [Op.equalIn, run_underlying hu]]; rfl
theorem r_eqNilS {e : TypeId} {p : Option Addr} {m c : Nat} (hu : P.underlying xt = some (.slice e)) (ho : o.op = .binOp .eql xt x y yt) (hx : a.eval x = .slice p m c) (hy : a.eval y = .slice none 0 0) : RunV P o a w (.bool p.isNone) :=
 r_bin ho hx hy fun w => by
  show (do pure (.bool (← Op.equal xt (.slice p m c) (.slice none 0 0))) : Sem Value).run P w = _
  rw [Sem.run_bind, equal_of (b := p.isNone) fun d => by cases p <;> simp [Op.equalIn, run_underlying hu]]; rfl
theorem r_not {t' : TypeId} {b : Bool} (ho : o.op = .unOp .not t' x) (hx : a.eval x = .bool b) : RunV P o a w (.bool (!b)) := by
 unfold RunV execOp; rw [ho]; simp only [hx]; rfl
theorem r_neg {t' : TypeId} (ho : o.op = .unOp .neg t' x) (hx : a.eval x = .int k i) : RunV P o a w (.int k (k.wrap (0 - i))) := by
 unfold RunV execOp; rw [ho]; simp only [hx]; rfl
theorem r_compl {t' : TypeId} (ho : o.op = .unOp .xor t' x) (hx : a.eval x = .int k i) : RunV P o a w (.int k (ixor k (if k.signed then -1 else k.max) i)) := by
 unfold RunV execOp; rw [ho]; simp only [hx]; rfl
theorem r_convI {src dst : TypeId} {ds : TypeDesc} {k' : IntKind} (hs : P.underlying src = some ds) (hd : P.underlying dst = some (.int k')) (ho : o.op = .convert src dst x) (hx : a.eval x = .int k i) : RunV P o a w (.int k' (k'.wrap i)) := by
 unfold RunV execOp; rw [ho]; simp [hx, convert, run_underlying hs, run_underlying hd, Conv.intToInt]
end ints
def str (s : List UInt8) : Value := .string ⟨s.toArray⟩
theorem ba_toList (s : List UInt8) : (⟨s.toArray⟩ : ByteArray).toList = s := by
 have key : ∀ (b : ByteArray) (i : Nat) (r : List UInt8), ByteArray.toList.loop b i r = r.reverse ++ b.data.toList.drop i := by
  intro b i r
  induction h : b.size - i generalizing i r with
  | zero =>
   unfold ByteArray.toList.loop
   rw [if_neg (by omega), List.drop_eq_nil_of_le (by have : b.data.size = b.size := rfl; simp; omega), List.append_nil]
  | succ m ih =>
   have hlt : i < b.size := by omega
   have hlt' : i < b.data.toList.length := by simpa using hlt
   unfold ByteArray.toList.loop
   rw [if_pos hlt, ih _ _ (by omega), List.reverse_cons, List.append_assoc]
   congr 1
   rw [List.drop_eq_getElem_cons hlt']
   simp only [List.singleton_append, List.cons.injEq, and_true]
   show b.data[i]! = _
   rw [getElem!_pos b.data i (by simpa using hlt)]
   simp
 unfold ByteArray.toList
 rw [key]
 simp
theorem ba_size (s : List UInt8) : (⟨s.toArray⟩ : ByteArray).size = s.length := by show s.toArray.size = _; simp
section strings
variable {x y : Operand} {xt yt : TypeId} {s u : List UInt8}
theorem r_eqS (ho : o.op = .binOp .eql xt x y yt) (hx : a.eval x = str s) (hy : a.eval y = str u) : RunV P o a w (.bool (s == u)) :=
 r_bin ho hx hy fun _ => by simp [str, eqGuard, binOp, Op.stringOp, ba_toList]
theorem r_neS (ho : o.op = .binOp .neq xt x y yt) (hx : a.eval x = str s) (hy : a.eval y = str u) : RunV P o a w (.bool (!(s == u))) :=
 r_bin ho hx hy fun _ => by simp [str, eqGuard, binOp, Op.stringOp, ba_toList]
theorem r_ltS (ho : o.op = .binOp .lss xt x y yt) (hx : a.eval x = str s) (hy : a.eval y = str u) : RunV P o a w (.bool (Op.bytesLess s u)) :=
 r_bin ho hx hy fun _ => by simp [str, eqGuard, binOp, Op.stringOp, ba_toList]
theorem r_builtin {b : Builtin} {args : Array Operand} {ts : Array TypeId} {v : Value} (ho : o.op = .call { callee := .builtin b, args := args, argTypes := ts })
  (hr : (builtin b ts o.type (args.map fun | .const _ => true | _ => false) (args.map a.eval)).run P w = .ok (.value v) w) : RunV P o a w v := by
 unfold RunV execOp; rw [ho]
 simp only [resolve, Sem.run_bind, Sem.run_pure, Result.andThen_ok, invoke]
 exact hr
theorem r_lenS (hu : P.underlying xt = some .string) (ho : o.op = .call { callee := .builtin .len, args := #[x], argTypes := #[xt] }) (hx : a.eval x = str s) : RunV P o a w (.int .i64 (s.length : Int)) :=
 r_builtin ho (by
  have e : #[x].map a.eval = #[str s] := by simp [hx]
  rw [e]
  show (do pure (.value (← Builtin.len_ #[xt] o.type #[str s])) : Sem Next).run P w = _
  rw [Sem.run_bind]
  simp [Builtin.len_, str, ba_size, goInt, run_underlying hu])
end strings
section mem
variable {x y : Operand} {t e : TypeId} {v : Value}
theorem r_nilCheck {ad : Addr} (ho : o.op = .nilCheck x) (hx : a.eval x = .pointer (some ad)) : RunV P o a w (.pointer (some ad)) := by
 unfold RunV execOp; rw [ho]; simp only [hx]; rfl
def FA (P : Program) (s i off : Nat) : Prop := ∀ (ad : Addr) (w : World), (Instr.fieldAt s (.pointer (some ad)) i).run P w = .ok (.pointer (some (ad.add off))) w
theorem r_fieldAddr {s i off : Nat} {ad : Addr} (hf : FA P s i off) (ho : o.op = .fieldAddr s x i) (hx : a.eval x = .pointer (some ad)) : RunV P o a w (.pointer (some (ad.add off))) := by
 have h := hf ad w
 unfold RunV execOp; rw [ho]; simp only [hx, Sem.run_bind, h]; rfl
theorem r_extract {vs : Array Value} {i : Nat} (ho : o.op = .extract x i) (hx : a.eval x = .tuple vs) (hi : vs[i]? = some v) : RunV P o a w v := by
 unfold RunV execOp; rw [ho]; simp only [hx, Instr.extract, hi]; rfl
theorem r_makeFunc {fn : Fn} {xs ys : Array Operand} {vs us : Array Value} (ho : o.op = .makeFunc fn xs ys) (hx : xs.map a.eval = vs) (hy : ys.map a.eval = us) : RunV P o a w (.func fn vs us) := by
 unfold RunV execOp; rw [ho]; simp only [hx, hy]; rfl
theorem r_build {parts : Array (Nat × Operand)} {ps : Array (Nat × Value)} (ho : o.op = .build t parts) (hx : parts.map (fun (i, x) => (i, a.eval x)) = ps) (hr : ∀ w, (Instr.build t ps).run P w = .ok v w) : RunV P o a w v := by
 unfold RunV execOp; rw [ho]; simp only [hx, Sem.run_bind, hr]; rfl
def flat (d : TypeDesc) : Bool := match d with | .struct _ | .array _ _ => false | _ => true
theorem run_isAgg_flat {d : TypeDesc} (h : P.underlying t = some d) (w : World) : (isAgg t).run P w = .ok (!flat d) w := by
 cases d <;> simp [isAgg, run_underlying h, flat]
theorem r_load {d : TypeDesc} {ad : Addr} (hu : P.underlying t = some d) (hd : flat d = true) (ho : o.op = .load t x) (hx : a.eval x = .pointer (some ad)) (hc : w.cell? ad = some v) : RunV P o a w v := by
 unfold RunV execOp; rw [ho]
 simp [hx, Instr.loadAt, Instr.sureAddr, loadVar, run_isAgg_flat hu, hd, hc]
theorem r_loadAgg {d : TypeDesc} {ad : Addr} {cs : List Value} (hu : P.underlying t = some d) (hd : flat d = false) (hi : (P.info? t).map (·.size) = some cs.length) (ho : o.op = .load t x) (hx : a.eval x = .pointer (some ad))
  (hc : ∀ j u, cs[j]? = some u → w.cell? (ad.add j) = some u) : RunV P o a w (.agg cs.toArray) := by
 unfold RunV execOp; rw [ho]
 obtain ⟨i, hi1, hi2⟩ := Option.map_eq_some_iff.1 hi
 have hagg : (isAgg t).run P w = .ok true w := by rw [run_isAgg_flat hu, hd]; rfl
 have hl := run_loadCells_list (P := P) w ad cs hc
 simp [hx, Instr.loadAt, Instr.sureAddr, loadVar, hagg, sizeOf, typeInfo, hi1, hi2, hl]
def ea (A : Option Addr) (k : Nat) : Addr := (A.getD default).add k
theorem ea_add (A : Option Addr) (i j : Nat) : (ea A i).add j = ea A (i + j) := add_add' _ _ _
theorem r_indexAddr {A : Option Addr} {m c sz : Nat} {k : IntKind} {i : Int} (hu : P.underlying t = some (.slice e)) (hi : (P.info? e).map (·.size) = some sz) (ho : o.op = .indexAddr t x y) (hx : a.eval x = .slice A m c) (hy : a.eval y = .int k i)
  (hA : A.isSome = true) (h0 : 0 ≤ i) (h1 : i < (m : Int)) : RunV P o a w (.pointer (some (ea A (i.toNat * sz)))) := by
 unfold RunV execOp; rw [ho]
 obtain ⟨q, hq1, hq2⟩ := Option.map_eq_some_iff.1 hi
 cases A with
 | none => cases hA
 | some ad =>
  simp [hx, hy, Instr.indexAt, asIntOf, run_underlying hu, h0, h1, sizeOf, typeInfo, hq1, hq2, ea]
theorem Rd.isSome_ {α : Type} {d : Kd α} {A : Option Addr} {xs : List α} (h : Rd d w A xs) {i : Int} (h0 : 0 ≤ i) (h1 : i < (xs.length : Int)) : A.isSome = true := by
 obtain ⟨ad, rfl, _⟩ := h (by omega)
 rfl
theorem Rd.elem {α : Type} {d : Kd α} {A : Option Addr} {xs : List α} (h : Rd d w A xs) {i : Nat} {z : α} (hi : xs[i]? = some z) :
  ∃ cs, d.V z cs ∧ ∀ q u, cs[q]? = some u → w.cell? (ea A (i * d.sz + q)) = some u := by
 obtain ⟨ad, rfl, hr⟩ := h (by have := (List.getElem?_eq_some_iff.1 hi).1; omega)
 exact hr i z hi
theorem r_len {A : Option Addr} {m c : Nat} (hu : P.underlying t = some (.slice e)) (ho : o.op = .call { callee := .builtin .len, args := #[x], argTypes := #[t] }) (hx : a.eval x = .slice A m c) : RunV P o a w (.int .i64 (m : Int)) :=
 r_builtin ho (by
  have e : #[x].map a.eval = #[.slice A m c] := by simp [hx]
  rw [e]
  show (do pure (.value (← Builtin.len_ #[t] o.type #[.slice A m c])) : Sem Next).run P w = _
  rw [Sem.run_bind]
  simp [Builtin.len_, goInt, run_underlying hu])
theorem r_minI {k : IntKind} {i j : Int} {ts : Array TypeId} (ho : o.op = .call { callee := .builtin .min, args := #[x, y], argTypes := ts }) (hx : a.eval x = .int k i) (hy : a.eval y = .int k j) : RunV P o a w (.int k (if j < i then j else i)) :=
 r_builtin ho (by
  have e : #[x, y].map a.eval = #[.int k i, .int k j] := by simp [hx, hy]
  rw [e]
  show (do pure (.value (← Builtin.min_ ts o.type #[.int k i, .int k j])) : Sem Next).run P w = _
  rw [Sem.run_bind]
  simp [Builtin.min_, Builtin.min2])
theorem r_maxI {k : IntKind} {i j : Int} {ts : Array TypeId} (ho : o.op = .call { callee := .builtin .max, args := #[x, y], argTypes := ts }) (hx : a.eval x = .int k i) (hy : a.eval y = .int k j) : RunV P o a w (.int k (if i < j then j else i)) :=
 r_builtin ho (by
  have e : #[x, y].map a.eval = #[.int k i, .int k j] := by simp [hx, hy]
  rw [e]
  show (do pure (.value (← Builtin.max_ ts o.type #[.int k i, .int k j])) : Sem Next).run P w = _
  rw [Sem.run_bind]
  simp [Builtin.max_, Builtin.max2])
theorem elem_of (hu : P.underlying t = some (.slice e)) : P.elem t = e := by simp [Program.elem, hu]
section
variable {A : Option Addr} {m c sz : Nat} {l u : Int} {kl kh : IntKind} {lo hi : Operand} (hu : P.underlying t = some (.slice e)) (hi' : (P.info? e).map (·.size) = some sz)
include hu hi'
theorem r_slice_lh (ho : o.op = .slice t x (some lo) (some hi) none) (hx : a.eval x = .slice A m c) (hl : a.eval lo = .int kl l) (hh : a.eval hi = .int kh u) (h0 : 0 ≤ l) (h1 : l ≤ u) (h2 : u ≤ c) :
  RunV P o a w (.slice (if c = l.toNat then A else A.map (·.add (l.toNat * sz))) (u.toNat - l.toNat) (c - l.toNat)) := by
 obtain ⟨q, hq1, hq2⟩ := Option.map_eq_some_iff.1 hi'
 have ht : P.underlying t = some (.slice (P.elem t)) := by rw [elem_of hu]; exact hu
 have h := run_slice_lh (P := P) w t A m c ht kl kh l u h0 h1 h2
 rw [elem_of hu] at h
 have hs : (sizeOf e).run P w = .ok sz w := by simp [sizeOf, typeInfo, hq1, hq2]
 rw [hs] at h
 unfold RunV execOp; rw [ho]
 simp only [hx, hl, hh, Option.map_some, Option.map_none, Sem.run_bind, run_sliceAt_slice w t _ _ _ _ ht, h]; rfl
theorem r_slice_h (ho : o.op = .slice t x none (some hi) none) (hx : a.eval x = .slice A m c) (hh : a.eval hi = .int kh u) (h0 : 0 ≤ u) (h2 : u ≤ c) :
  RunV P o a w (.slice A u.toNat c) := by
 obtain ⟨q, hq1, hq2⟩ := Option.map_eq_some_iff.1 hi'
 have ht : P.underlying t = some (.slice (P.elem t)) := by rw [elem_of hu]; exact hu
 have h := run_slice_h (P := P) w t A m c ht kh u h0 h2
 rw [elem_of hu] at h
 have hs : (sizeOf e).run P w = .ok sz w := by simp [sizeOf, typeInfo, hq1, hq2]
 rw [hs] at h
 unfold RunV execOp; rw [ho]
 simp only [hx, hh, Option.map_some, Option.map_none, Sem.run_bind, run_sliceAt_slice w t _ _ _ _ ht, h]
 have : sliced A 0 u.toNat c sz = .slice A u.toNat c := by
  unfold sliced
  cases A <;> simp [add_zero']
 simp [Result.andThen, this]
theorem r_slice_l (ho : o.op = .slice t x (some lo) none none) (hx : a.eval x = .slice A m c) (hl : a.eval lo = .int kl l) (h0 : 0 ≤ l) (h2 : l ≤ m) :
  RunV P o a w (.slice (if c = l.toNat then A else A.map (·.add (l.toNat * sz))) (m - l.toNat) (c - l.toNat)) := by
 obtain ⟨q, hq1, hq2⟩ := Option.map_eq_some_iff.1 hi'
 have ht : P.underlying t = some (.slice (P.elem t)) := by rw [elem_of hu]; exact hu
 have h := run_slice_l (P := P) w t A m c ht kl l h0 h2
 rw [elem_of hu] at h
 have hs : (sizeOf e).run P w = .ok sz w := by simp [sizeOf, typeInfo, hq1, hq2]
 rw [hs] at h
 unfold RunV execOp; rw [ho]
 simp only [hx, hl, Option.map_some, Option.map_none, Sem.run_bind, run_sliceAt_slice w t _ _ _ _ ht, h]; rfl
end
theorem r_indexS {k : IntKind} {i : Int} {s : List UInt8} {b : UInt8} (hu : P.underlying t = some .string) (ho : o.op = .index t x y) (hx : a.eval x = str s) (hy : a.eval y = .int k i) (h0 : 0 ≤ i) (hb : s[i.toNat]? = some b) : RunV P o a w (.int .u8 (b.toNat : Int)) := by
 unfold RunV execOp; rw [ho]
 have hlt : i.toNat < s.length := (List.getElem?_eq_some_iff.1 hb).1
 have e : (⟨s.toArray⟩ : ByteArray)[i.toNat]? = some b := by
  rw [getElem?_pos _ _ (by rw [ba_size]; exact hlt)]
  have := (List.getElem?_eq_some_iff.1 hb).2
  rw [← this]
  rfl
 simp [hx, hy, str, Instr.index, asIntOf, run_underlying hu, h0, e]
end mem
end
section
variable {P : Program} {ops : Array Oper} {Q : Exit → Act → World → Prop} {rest : List Oper} {o : Oper} {a : Act} {w w' : World} {K : Act → World → Prop}
 {n : Nat} {D : List Deferred} {F : List (Nat × Value)} {r : World} {L : List HP} {α : Type} {d : Kd α} {x y : Operand} {t e T : TypeId} {v : Value}
theorem SH.new (h : SH r L w) (ho : w'.os = w.os) (ht : w'.tape = w.tape) (hp : w'.output = w.output) (hs : w.heap.size ≤ w'.heap.size)
  (hk : ∀ k, k < w.heap.size → w'.heap[k]? = w.heap[k]?) {Ls : List HP} (hB : ∀ S : Nat → Prop, (∀ k, w.heap.size ≤ k → k < w'.heap.size → S k) → Sep Ls w' S) : SH r (Ls ++ L) w' := by
 have h0 : SH r (pure' True :: L) w := ⟨h.os, h.tape, h.output, fun _ => False, _, fun _ h => h.elim, fun _ h => h, fun _ h => h.elim, trivial, h.sep⟩
 exact h0.upd (S1 := fun _ => False) (fun _ h => h.elim) (fun _ h => h) (fun _ h => h.elim) h.sep ho ht hp hs (fun k hk' _ => hk k hk') fun S _ hS _ => hB S hS
theorem SH.alloc (h : SH r L w) (T : TypeId) (cs : List Value) : SH r (blk w.heap.size T cs :: L) (w.alloc (.cells cs.toArray T)) :=
 h.new (w' := w.alloc (.cells cs.toArray T)) rfl rfl rfl (by simp) (fun k hk => Below.heap_alloc _ _ _ hk) (Ls := [blk w.heap.size T cs]) fun S hS =>
  ⟨S, fun _ => False, fun _ h => h, fun _ h => h.elim, fun _ _ h => h, ⟨hS _ (Nat.le_refl _) (by simp), heap_alloc_new w _⟩, trivial⟩
theorem e_box {cs : List Value} (hS : SH r L w) (ho : o.op = .box T x) (hx : a.eval x = v) (hcs : v.cells = cs.toArray)
  (hK : ∀ g w', SH r (blk g T cs :: L) w' → K (a.put o.dst (.pointer (some ⟨g, 0, none⟩))) w') : o.wp P a w K Q := by
 have h : (execOp a.eval o).run P w = .ok (.value (.pointer (some ⟨w.heap.size, 0, none⟩))) (w.alloc (.cells cs.toArray T)) := by
  unfold execOp; rw [ho]
  simp [Instr.box, newVar, newRow, hx, hcs]
 unfold Oper.wp
 rw [h]
 exact hK _ _ (hS.alloc T cs)
theorem e_alloc {cs : List Value} {z : Value} (hS : SH r L w) (ho : o.op = .alloc T) (hz : (P.info? T).bind (·.zero) = some z) (hcs : z.cells = cs.toArray)
  (hK : ∀ g w', SH r (blk g T cs :: L) w' → K (a.put o.dst (.pointer (some ⟨g, 0, none⟩))) w') : o.wp P a w K Q := by
 obtain ⟨i, hi1, hi2⟩ := Option.bind_eq_some_iff.1 hz
 have h : (execOp a.eval o).run P w = .ok (.value (.pointer (some ⟨w.heap.size, 0, none⟩))) (w.alloc (.cells cs.toArray T)) := by
  unfold execOp; rw [ho]
  simp [Instr.alloc, newVar, newRow, zeroValue, typeInfo, hi1, hi2, hcs]
 unfold Oper.wp
 rw [h]
 exact hK _ _ (hS.alloc T cs)
theorem own_new {w : World} {g m c : Nat} {xs : List α} {cur : Array Value} {S : Nat → Prop} (hg : w.heap[g]? = some (.cells cur e (0, 0))) (hS : S g) (hn : xs.length = m) (hc : xs.length ≤ c) (hm : c ≤ maxLen) (hs : cur.size = c * d.sz)
  (hL : Lay d xs (cur.toList.take (xs.length * d.sz))) : (own d e (some ⟨g, 0, none⟩) m c xs).P w S :=
 ⟨hn, ⟨_, hL, hL.length, .inr ⟨g, c, cur, rfl, Nat.zero_le _, hg, hc, hm, hs, rfl⟩⟩, fun g' hg' => by cases hg'; exact hS⟩
theorem e_buildSlice {m : Nat} {parts : Array (Nat × Operand)} {ps : Array (Nat × Value)} {cells : List Value} {xs : List α} (hS : SH r L w) (ho : o.op = .buildSlice t m parts) (hx : parts.map (fun (i, x) => (i, a.eval x)) = ps)
  (hr : ∀ w : World, (Instr.buildSlice t m ps).run P w = .ok (.slice (some ⟨w.heap.size, 0, none⟩) m m) (w.alloc (.cells cells.toArray e))) (hm : xs.length = m) (hmx : m ≤ maxLen) (hL : Lay d xs cells)
  (hK : ∀ g w', SH r (own d e (some ⟨g, 0, none⟩) m m xs :: L) w' → K (a.put o.dst (.slice (some ⟨g, 0, none⟩) m m)) w') : o.wp P a w K Q := by
 have h : (execOp a.eval o).run P w = .ok (.value (.slice (some ⟨w.heap.size, 0, none⟩) m m)) (w.alloc (.cells cells.toArray e)) := by
  unfold execOp; rw [ho]
  have h := hr w
  simp only [hx, Sem.run_bind, h]
  rfl
 unfold Oper.wp
 rw [h]
 refine hK _ _ (hS.new (w' := w.alloc (.cells cells.toArray e)) rfl rfl rfl (by simp) (fun k hk => Below.heap_alloc _ _ _ hk) (Ls := [own d e (some ⟨w.heap.size, 0, none⟩) m m xs]) fun S hS' =>
  ⟨S, fun _ => False, fun _ h => h, fun _ h => h.elim, fun _ _ h => h, ?_, trivial⟩)
 have hl := hL.length
 refine own_new (heap_alloc_new w _) (hS' _ (Nat.le_refl _) (by simp)) hm (by omega) hmx (by simp [hl, hm]) ?_
 simp only [hm] at hl ⊢
 rw [List.take_of_length_le (by simp [hl])]
 exact hL
theorem flatten_replicate_get (z : List Value) : ∀ (k i : Nat), i < k * z.length → (List.replicate k z).flatten[i]? = z[i % z.length]?
 | 0, i, h => by simp at h
 | k + 1, i, h => by
  rw [List.replicate_succ, List.flatten_cons]
  rcases Nat.lt_or_ge i z.length with hi | hi
  ·rw [List.getElem?_append_left hi, Nat.mod_eq_of_lt hi]
  ·rw [List.getElem?_append_right hi, flatten_replicate_get z k (i - z.length) (by rw [Nat.add_mul] at h; omega), ← Nat.mod_eq_sub_mod hi]
theorem madeCells_toList (z : Array Value) (k : Nat) : (madeCells z (k * z.size)).toList = (List.replicate k z.toList).flatten := by
 apply List.ext_getElem?
 intro i
 rcases Nat.lt_or_ge i (k * z.size) with hi | hi
 ·have hz : 0 < z.size := Nat.pos_of_ne_zero fun h => by rw [h] at hi; omega
  have hm : i % z.size < z.size := Nat.mod_lt _ hz
  rw [flatten_replicate_get _ _ _ (by simpa using hi)]
  simp [madeCells, hi, hm]
 ·rw [List.getElem?_eq_none (by simp [size_madeCells, hi]), List.getElem?_eq_none (by simp [List.length_flatten, hi])]
theorem e_makeSlice {l : Operand} {kl : IntKind} {m : Int} {z : Value} {bytes : Nat} {z0 : α} (hS : SH r L w) (ht : P.underlying t = some (.slice e)) (hi : (P.info? e).map (fun i => (i.zero, i.size, i.bytes)) = some (some z, d.sz, bytes))
  (ho : o.op = .makeSlice t l l) (hl : a.eval l = .int kl m) (hz : d.V z0 z.cells.toList) (h0 : 0 ≤ m) (hb : (bytes : Int) * m ≤ 140737488355328) (hsz : 0 < bytes)
  (hK : ∀ g w', SH r (own d e (some ⟨g, 0, none⟩) m.toNat m.toNat (List.replicate m.toNat z0) :: L) w' → K (a.put o.dst (.slice (some ⟨g, 0, none⟩) m.toNat m.toNat)) w') : o.wp P a w K Q := by
 obtain ⟨i, hi1, hi2, hi3, hi4⟩ := info_parts hi
 have hm : m ≤ 140737488355328 := by
  have : 1 * m ≤ (bytes : Int) * m := Int.mul_le_mul_of_nonneg_right (by omega) h0
  omega
 have hrun := run_make (P := P) w t e i z ht hi1 hi2 kl kl m m h0 (Int.le_refl _) (by rw [hi4]; omega) (by omega)
 have h : (execOp a.eval o).run P w = .ok (.value (.slice (some ⟨w.heap.size, 0, none⟩) m.toNat m.toNat)) (w.alloc (.cells (madeCells z.cells (m.toNat * i.size)) e)) := by
  unfold execOp; rw [ho]
  simp only [hl, Sem.run_bind, hrun]
  rfl
 unfold Oper.wp
 rw [h]
 have hzs : z.cells.size = d.sz := by simpa using d.len hz
 refine hK _ _ (hS.new (w' := w.alloc (.cells (madeCells z.cells (m.toNat * i.size)) e)) rfl rfl rfl (by simp) (fun k hk => Below.heap_alloc _ _ _ hk) (Ls := [own d e (some ⟨w.heap.size, 0, none⟩) m.toNat m.toNat (List.replicate m.toNat z0)]) fun S hS' =>
  ⟨S, fun _ => False, fun _ h => h, fun _ h => h.elim, fun _ _ h => h, ?_, trivial⟩)
 have hL : Lay d (List.replicate m.toNat z0) (madeCells z.cells (m.toNat * i.size)).toList := by
  rw [hi3, ← hzs, madeCells_toList]
  generalize m.toNat = k
  induction k with
  | zero => rfl
  | succ k ih => exact ⟨_, _, rfl, hz, ih⟩
 have hl' := hL.length
 refine own_new (heap_alloc_new w _) (hS' _ (Nat.le_refl _) (by simp)) (by simp) (by simp) (by simp only [maxLen]; omega) (by simp at hl'; simp [hl']) ?_
 rw [List.take_of_length_le (by rw [hl']; exact Nat.le_refl _)]
 exact hL
theorem run_append_nil (base : Nat) (ty : TypeId) (i : TypeInfo) (size : Nat) (ht : P.underlying t = some (.slice e)) (hi : P.info? e = some i)
  (v : Value) (m : Nat) (xs : List Value) (hown : w.ownsRow base e size v m xs) (c : Nat) : (Builtin.append_ #[t, t] ty #[v, .slice none 0 c]).run P w = .ok v w := by
 rcases hown.2 with ⟨rfl, rfl⟩ | ⟨g, cap, cur, rfl, _, _, hnc, _⟩
 ·simp [Builtin.append_, run_underlying ht, sizeOf, typeInfo, hi, Builtin.lenOf, Builtin.firstCells]
 ·simp [Builtin.append_, run_underlying ht, sizeOf, typeInfo, hi, Builtin.lenOf, Builtin.firstCells, hnc, storeCells]
theorem e_append (i : Nat) {z : Value} {bytes n1 c n2 c2 : Nat} {A A2 : Option Addr} {xs ys : List α} {L' : List HP} (hS : SH r L w) (hL : pk i L = own d e A n1 c xs :: L')
  (ht : P.underlying t = some (.slice e)) (hi : (P.info? e).map (fun i => (i.zero, i.size, i.bytes)) = some (some z, d.sz, bytes)) (hz : z.cells.size = d.sz) (hsz : 0 < d.sz)
  (ho : o.op = .call { callee := .builtin .append, args := #[x, y], argTypes := #[t, t] }) (hx : a.eval x = .slice A n1 c) (hy : a.eval y = .slice A2 n2 c2) (hr : Rd d w A2 ys) (hn2 : ys.length = n2)
  (hm : xs.length + ys.length ≤ maxLen) (hb : (xs.length + ys.length) * bytes ≤ 140737488355328)
  (hK : ∀ A' n' c' w', SH r (own d e A' n' c' (xs ++ ys) :: L') w' → K (a.put o.dst (.slice A' n' c')) w') : o.wp P a w K Q := by
 subst hn2
 have hS' := hS.pk i
 rw [hL] at hS'
 obtain ⟨S1, S2, h1, h2, hd, ⟨hn1, ⟨inner, hLay, hown⟩, hSo⟩, hsep⟩ := hS'.sep
 subst hn1
 obtain ⟨inf, hi1, hi2, hi3, hi4⟩ := info_parts hi
 have key : ∃ v' w', (Builtin.append_ #[t, t] o.type #[.slice A xs.length c, .slice A2 ys.length c2]).run P w = .ok v' w' ∧ (∃ news, Lay d ys news ∧ w'.ownsRow 0 e d.sz v' (xs.length + ys.length) (inner ++ news)) ∧
   w.grownBy w' (Value.slice A xs.length c).ownBlock ∧ (v'.ownBlock = (Value.slice A xs.length c).ownBlock ∨ v'.ownBlock = some w.heap.size) := by
  rcases A2 with _ | ad
  ·have hy0 : ys = [] := by
    rcases Nat.eq_zero_or_pos ys.length with h | h
    ·exact List.eq_nil_of_length_eq_zero h
    ·obtain ⟨ad, h', _⟩ := hr h; cases h'
   subst hy0
   exact ⟨_, w, run_append_nil 0 o.type inf d.sz ht hi1 _ _ inner hown c2, ⟨[], rfl, by simpa using hown⟩, World.grownBy.refl w _, .inl rfl⟩
  ·rcases Nat.eq_zero_or_pos ys.length with h0 | hpos
   ·have hy0 := List.eq_nil_of_length_eq_zero h0
    subst hy0
    obtain ⟨v', w', hrun, h2, h3, _, h5⟩ := run_append_own_at (P := P) w 0 t o.type e inf z d.sz bytes ht hi1 hi2 hi3 hi4 hz hsz _ _ _ hown ad 0 c2 [] (by simp) (fun j u hu => by simp at hu) (by simp) (by simpa using hm) (by simpa using hb) (Nat.zero_le _)
    exact ⟨v', w', hrun, ⟨[], rfl, h2⟩, h3, h5⟩
   ·obtain ⟨ad', hA, hra⟩ := hr hpos
    cases hA
    obtain ⟨news, hLn, hc⟩ := hra.cells
    obtain ⟨v', w', hrun, h2, h3, _, h5⟩ := run_append_own_at (P := P) w 0 t o.type e inf z d.sz bytes ht hi1 hi2 hi3 hi4 hz hsz _ _ _ hown ad ys.length c2 news hLn.length hc hLn.one hm hb (Nat.zero_le _)
    exact ⟨v', w', hrun, ⟨news, hLn, h2⟩, h3, h5⟩
 obtain ⟨v', w', hrun, ⟨news, hLn, hown'⟩, hg, hat⟩ := key
 have hv : ∃ A' c', v' = .slice A' (xs.length + ys.length) c' := by
  rcases hown'.2 with ⟨rfl, hn⟩ | ⟨g, cap, cur, rfl, _⟩
  ·exact ⟨none, 0, by rw [hn]⟩
  ·exact ⟨_, _, rfl⟩
 obtain ⟨A', c', rfl⟩ := hv
 have h : (execOp a.eval o).run P w = .ok (.value (.slice A' (xs.length + ys.length) c')) w' := by
  unfold execOp; rw [ho]
  simp only [resolve, Sem.run_bind, Sem.run_pure, Result.andThen_ok, invoke]
  have e1 : #[x, y].map a.eval = #[.slice A xs.length c, .slice A2 ys.length c2] := by simp [hx, hy]
  rw [e1]
  show (do pure (.value (← Builtin.append_ #[t, t] o.type _)) : Sem Next).run P w = _
  rw [Sem.run_bind, hrun]
  rfl
 unfold Oper.wp
 rw [h]
 refine hK _ _ _ _ (hS'.upd h1 h2 hd hsep hg.os hg.tape hg.output hg.size (fun k hk hk1 => hg.block k hk fun e => hk1 (hSo k e.symm)) (Ls := [own d e A' (xs.length + ys.length) c' (xs ++ ys)]) fun S hS1 hS2 _ =>
  ⟨S, fun _ => False, fun _ h => h, fun _ h => h.elim, fun _ _ h => h, ⟨by simp, ⟨inner ++ news, hLay.append hLn, by rw [List.length_append]; exact hown'⟩, fun g hg' => ?_⟩, trivial⟩)
 rw [List.length_append] at hg'
 rcases hat with h | h
 ·rw [h] at hg'; exact hS1 _ (hSo _ hg')
 ·have hlt := (hown'.lt g hg').2
  rw [h] at hg'
  cases hg'
  exact hS2 _ (Nat.le_refl _) hlt
def splice (cs : List Value) (off : Nat) (vs : List Value) : List Value := cs.take off ++ vs ++ cs.drop (off + vs.length)
theorem run_store_at {g : Nat} {cur : Array Value} {off : Nat} {vs : List Value} (hg : w.heap[g]? = some (.cells cur T (0, 0))) (hl : off + vs.length ≤ cur.size) (h1 : ∀ v ∈ vs, v.oneCell' = true)
  (hx : v.cells.toList = vs) (hi : (P.info? t).map (·.size) = some vs.length) : (storeVar t ⟨g, off, none⟩ v).run P w = .ok () (w.setRow g (splice cur.toList off vs).toArray) := by
 obtain ⟨i, hi1, hi2⟩ := Option.map_eq_some_iff.1 hi
 have h := run_storeCells_at (P := P) g off T vs 0 cur w hg (by omega) h1
 have hs : v.cells.size = vs.length := by rw [← hx]; simp
 simp only [Nat.add_zero] at h
 simp [storeVar, sizeOf, typeInfo, hi1, hi2, hs, hx, h, splice]
theorem setRow_other {g k : Nat} {cs : Array Value} (h : k ≠ g) : (w.setRow g cs).heap[k]? = w.heap[k]? := by
 simp only [World.setRow, Array.getElem?_modify]
 rw [if_neg (by omega)]
theorem e_store_blk (i : Nat) {g off : Nat} {cs vs : List Value} {L' : List HP} (hS : SH r L w) (hL : pk i L = blk g T cs :: L') (ho : o.op = .store t x y) (hx : a.eval x = .pointer (some ⟨g, off, none⟩)) (hy : a.eval y = v)
  (hv : v.cells.toList = vs) (h1 : ∀ v ∈ vs, v.oneCell' = true) (hl : off + vs.length ≤ cs.length) (hi : (P.info? t).map (·.size) = some vs.length)
  (hK : ∀ w', SH r (blk g T (splice cs off vs) :: L') w' → K (a.put o.dst undef) w') : o.wp P a w K Q := by
 have hS' := hS.pk i
 rw [hL] at hS'
 obtain ⟨S1, S2, q1, q2, hd, hA, hsep⟩ := hS'.sep
 have hrun := run_store_at (P := P) (t := t) (v := v) hA.2 (by simpa using hl) h1 hv hi
 have h : (execOp a.eval o).run P w = .ok .skip (w.setRow g (splice cs off vs).toArray) := by
  unfold execOp; rw [ho]
  simp only [hx, hy, Instr.storeAt, Instr.sureAddr, Sem.run_bind, Sem.run_pure, Result.andThen_ok, hrun]
 unfold Oper.wp
 rw [h]
 refine hK _ (hS'.upd (w' := w.setRow g (splice cs off vs).toArray) q1 q2 hd hsep rfl rfl rfl (by simp [World.setRow]) (fun k hk hk1 => setRow_other fun e => hk1 (by rw [e]; exact hA.1)) (Ls := [blk g T (splice cs off vs)]) fun S hS1 _ _ =>
  ⟨S, fun _ => False, fun _ h => h, fun _ h => h.elim, fun _ _ h => h, ⟨hS1 _ hA.1, setRow_heap w g _ _ T (0, 0) hA.2⟩, trivial⟩)
theorem splice_length {cs vs : List Value} {off : Nat} (h : off + vs.length ≤ cs.length) : (splice cs off vs).length = cs.length := by
 simp [splice]; omega
theorem Lay.store : ∀ {xs : List α} {cs : List Value}, Lay d xs cs → ∀ {j off : Nat} {x x' : α} {vs : List Value}, xs[j]? = some x → off + vs.length ≤ d.sz → (∀ c, d.V x c → d.V x' (splice c off vs)) →
  Lay d (xs.set j x') (splice cs (j * d.sz + off) vs)
 | [], _, _, j, _, _, _, _, h, _, _ => by simp at h
 | y :: xs, _, ⟨c1, c2, e, hV, hL⟩, 0, off, x, x', vs, h, ho, hv => by
  subst e
  cases h
  have hl := d.len hV
  refine ⟨splice c1 off vs, c2, ?_, hv _ hV, hL⟩
  simp only [splice, Nat.zero_mul, Nat.zero_add]
  rw [List.take_append_of_le_length (by omega), List.drop_append_of_le_length (by omega), List.append_assoc, List.append_assoc, List.append_assoc]
 | y :: xs, _, ⟨c1, c2, e, hV, hL⟩, j + 1, off, x, x', vs, h, ho, hv => by
  subst e
  have hl := d.len hV
  refine ⟨c1, _, ?_, hV, Lay.store hL (j := j) (by simpa using h) ho hv⟩
  simp only [splice]
  have e1 : (j + 1) * d.sz + off = c1.length + (j * d.sz + off) := by rw [hl, Nat.add_mul]; omega
  rw [e1, List.take_append, List.take_of_length_le (by omega), Nat.add_sub_cancel_left, Nat.add_assoc c1.length, List.drop_append, List.drop_eq_nil_of_le (show c1.length ≤ c1.length + (j * d.sz + off + vs.length) by omega), List.nil_append, Nat.add_sub_cancel_left]
  simp [List.append_assoc]
theorem e_store_own (i : Nat) {A : Option Addr} {n1 c off j : Nat} {xs : List α} {z z' : α} {vs : List Value} {L' : List HP} (hS : SH r L w) (hL : pk i L = own d e A n1 c xs :: L') (ho : o.op = .store t x y) (hx : a.eval x = .pointer (some (ea A (j * d.sz + off)))) (hy : a.eval y = v)
  (hv : v.cells.toList = vs) (h1 : ∀ v ∈ vs, v.oneCell' = true) (hl : off + vs.length ≤ d.sz) (hi : (P.info? t).map (·.size) = some vs.length) (hj : xs[j]? = some z) (hV : ∀ c, d.V z c → d.V z' (splice c off vs))
  (hK : ∀ w', SH r (own d e A n1 c (xs.set j z') :: L') w' → K (a.put o.dst undef) w') : o.wp P a w K Q := by
 have hS' := hS.pk i
 rw [hL] at hS'
 obtain ⟨S1, S2, q1, q2, hd, ⟨hn1, ⟨inner, hLay, hown⟩, hSo⟩, hsep⟩ := hS'.sep
 subst hn1
 have hjl : j < xs.length := (List.getElem?_eq_some_iff.1 hj).1
 have hin := hLay.length
 rcases hown.2 with ⟨hv', hn⟩ | ⟨g, cap, cur, hv', hg0, hh, hnc, hcm, hs, htk⟩
 ·omega
 ·injection hv' with hA _ hc
  subst hA hc
  have hmul : (j + 1) * d.sz ≤ xs.length * d.sz := Nat.mul_le_mul_right _ (by omega)
  have hmul2 : xs.length * d.sz ≤ c * d.sz := Nat.mul_le_mul_right _ hnc
  rw [Nat.add_mul] at hmul
  have hx' : a.eval x = .pointer (some ⟨g, j * d.sz + off, none⟩) := by rw [hx]; simp [ea, add_mk]
  have hrun := run_store_at (P := P) (t := t) (v := v) (off := j * d.sz + off) hh (by omega) h1 hv hi
  have h : (execOp a.eval o).run P w = .ok .skip (w.setRow g (splice cur.toList (j * d.sz + off) vs).toArray) := by
   unfold execOp; rw [ho]
   simp only [hx', hy, Instr.storeAt, Instr.sureAddr, Sem.run_bind, Sem.run_pure, Result.andThen_ok, hrun]
  unfold Oper.wp
  rw [h]
  refine hK _ (hS'.upd (w' := w.setRow g (splice cur.toList (j * d.sz + off) vs).toArray) q1 q2 hd hsep rfl rfl rfl (by simp [World.setRow]) (fun k hk hk1 => setRow_other fun e => hk1 (by rw [e]; exact hSo _ rfl)) (Ls := [own d e (some ⟨g, 0, none⟩) xs.length c (xs.set j z')]) fun S hS1 _ _ =>
   ⟨S, fun _ => False, fun _ h => h, fun _ h => h.elim, fun _ _ h => h, ?_, trivial⟩)
  refine own_new (setRow_heap w g _ _ e (0, 0) hh) (hS1 _ (hSo _ rfl)) (by simp) (by simpa using hnc) hcm ?_ ?_
  ·have := splice_length (cs := cur.toList) (vs := vs) (off := j * d.sz + off) (by simp; omega)
   simp only [List.size_toArray, this]
   simpa using hs
  ·have hst := hLay.store hj hl hV
   have e1 : (splice cur.toList (j * d.sz + off) vs).take (xs.length * d.sz) = splice inner (j * d.sz + off) vs := by
    rw [← htk]
    simp only [splice]
    rw [List.take_append, List.take_append, List.take_take, List.take_take, Nat.min_eq_right (by omega), Nat.min_eq_left (by omega), List.length_append, List.length_take]
    rw [List.take_of_length_le (l := vs) (by simp; omega)]
    congr 1
    rw [List.drop_take]
    congr 1
    simp
    omega
   simp only [List.length_set]
   rw [e1]
   exact hst
def EN (P : Program) (f : FuncId) : Prop := ∀ (args : Array Value) (w : World), (callFunc f args).run P w = .ok (.enter f args) w
def Ret (P : Program) (f : FuncId) (args : Array Value) (w : World) (R : Value → World → Prop) : Prop := Calls P f args w fun e w' => ∃ v, e = .returned v ∧ R v w'
theorem e_call {f : FuncId} {az : Array Operand} {ts : Array TypeId} {vals : Array Value} {R : Value → World → Prop} (hf : EN P f) (ho : o.op = .call { callee := .value (.func f), args := az, argTypes := ts }) (hargs : az.map a.eval = vals)
  (hC : Ret P f vals w R) (hK : ∀ v w', R v w' → K (a.put o.dst v) w') : o.wp P a w K Q := by
 have h : (execOp a.eval o).run P w = .ok (.enter f vals) w := by
  unfold execOp; rw [ho]
  simp only [resolve, Act.eval, Deferred.ofValue, Sem.run_bind, Sem.run_pure, Result.andThen_ok, invoke, hargs]
  have := hf (#[] ++ vals ++ #[]) w
  simpa using this
 unfold Oper.wp
 rw [h]
 exact Calls.mono hC fun e w' ⟨v, he, hR⟩ => by subst he; exact hK v w' hR
end
def at_ {α : Type} (xs : List α) (i : Int) : Option α := if 0 ≤ i then xs[i.toNat]? else none
def cut_ {α : Type} (xs : List α) (l u : Int) : Option (List α) := if 0 ≤ l ∧ l ≤ u ∧ u ≤ (xs.length : Int) then some ((xs.take u.toNat).drop l.toNat) else none
def chk {α : Type} (p : Prop) [Decidable p] (x : Option α) : Option α := if p then x else none
section pures
variable {α β : Type} {x : α} {xs : List α} {i l u : Int} {y : β}
theorem at_some (h : at_ xs i = some x) : 0 ≤ i ∧ i < (xs.length : Int) ∧ xs[i.toNat]? = some x := by
 unfold at_ at h
 split at h
 ·have := (List.getElem?_eq_some_iff.1 h).1
  exact ⟨by assumption, by omega, h⟩
 ·cases h
theorem cut_some {ys : List α} (h : cut_ xs l u = some ys) : 0 ≤ l ∧ l ≤ u ∧ u ≤ (xs.length : Int) ∧ ys = (xs.take u.toNat).drop l.toNat := by
 unfold cut_ at h
 split at h
 ·rename_i hc
  cases h
  exact ⟨hc.1, hc.2.1, hc.2.2, rfl⟩
 ·cases h
theorem chk_some {p : Prop} [Decidable p] {o : Option β} (h : chk p o = some y) : p ∧ o = some y := by
 unfold chk at h
 split at h
 ·exact ⟨by assumption, h⟩
 ·cases h
theorem bnd {o : Option α} {f : α → Option β} (h : o.bind f = some y) : ∃ x, o = some x ∧ f x = some y := Option.bind_eq_some_iff.1 h
theorem ift {b : Bool} {p q : Option β} (hb : b = true) (h : (if b = true then p else q) = some y) : p = some y := by rw [if_pos hb] at h; exact h
theorem iff' {b : Bool} {p q : Option β} (hb : b = false) (h : (if b = true then p else q) = some y) : q = some y := by rw [if_neg (by rw [hb]; decide)] at h; exact h
end pures
section
variable {P : Program} {ops : Array Oper} {Q : Exit → Act → World → Prop} {rest : List Oper} {o : Oper} {a : Act} {w w' : World} {K : Act → World → Prop}
 {n : Nat} {D : List Deferred} {F : List (Nat × Value)} {r : World} {L : List HP} {α : Type} {d : Kd α} {x y c : Operand} {t' e T xt yt : TypeId} {v : Value} {t : Nat} {k : IntKind} {i j : Int} {s u : List UInt8}
theorem enter {f : FuncId} {fn : Func} {cd : Code} {args : Array Value} {R : Value → World → Prop} {n : Nat} (hf : P.funcs[f]? = some fn) (hb : fn.body = some cd) (hn : fn.ntmps = n)
  (F : List (Nat × Value)) (hF : F.map (fun p => args[p.1]?) = F.map fun p => some p.2) (hle : (args.size ≤ n) = True)
  (h : ∀ a, FR n [] a F → ∀ Qf : Exit → Act → World → Prop, (∀ a w, bodyPost P fn (fun e w' => ∃ v, e = .returned v ∧ R v w') .ret a w → Qf .ret a w) → (∀ a w, bodyPost P fn (fun e w' => ∃ v, e = .returned v ∧ R v w') .normal a w → Qf .normal a w) → cd.wp P Qf a w) : Ret P f args w R := by
 refine calls_of_wp hf hb (h _ ⟨?_, rfl, ?_⟩ _ (fun _ _ h => h) fun _ _ h => h)
 ·have := of_eq_true hle
  simp [hn]; omega
 ·intro t v hv
  clear h
  induction F with
  | nil => cases hv
  | cons p q ih =>
   obtain ⟨k, u⟩ := p
   simp only [List.map_cons, List.cons.injEq] at hF
   simp only [lk] at hv
   by_cases e : Nat.beq k t = true
   ·rw [e] at hv
    have e' := Nat.eq_of_beq_eq_true e
    subst e'
    cases hv
    have hlt := (Array.getElem?_eq_some_iff.1 hF.1).1
    show (args ++ _)[k]? = _
    rw [Array.getElem?_append_left hlt]
    exact hF.1
   ·rw [Bool.eq_false_iff.2 e] at hv
    exact ih hF.2 hv
theorem lv {fn : Func} {R : Value → World → Prop} {t : Nat} (hr : fn.results = #[.tmp t]) (hA : FR n [] a F) (hv : lk F t = some v) (h : R v w) : bodyPost P fn (fun e w' => ∃ v, e = .returned v ∧ R v w') .ret a w :=
 bodyPost_ret (by rw [results_tmp hr, show a.tmps.getD t undef = v from hA.ev (x := .tmp t) hv]) hA.defers ⟨v, rfl, h⟩
theorem lv0n {fn : Func} {R : Value → World → Prop} (hr : fn.results = #[]) (hA : FR n [] a F) (h : R (.tuple #[]) w) : bodyPost P fn (fun e w' => ∃ v, e = .returned v ∧ R v w') .normal a w :=
 bodyPost_end (results_none hr _ _ _) hA.defers ⟨_, rfl, h⟩
def Exit.blk (id : Nat) (Kx : Act → World → Prop) (Q : Exit → Act → World → Prop) : Exit → Act → World → Prop
 | .normal, a, w => Kx a w
 | .exit id', a, w => bif Nat.beq id' id then Kx a w else Q (.exit id') a w
 | e, a, w => Q e a w
theorem wp_block_k {id : Nat} {cd : Code} (h : ∀ Kx : Act → World → Prop, (∀ a w, Q .normal a w → Kx a w) → cd.wp P (Exit.blk id Kx Q) a w) : (Code.block id cd).wp P Q a w := by
 refine wp_block (Code.wp_mono (fun e a w q => ?_) (h (Q .normal) fun _ _ h => h))
 cases e with
 | exit id' =>
  simp only [Exit.blk, Exit.inBlock] at q ⊢
  by_cases h : id' = id
  ·subst h
   simpa using q
  ·have : Nat.beq id' id = false := by
    cases hb : Nat.beq id' id
    ·rfl
    ·exact absurd (Nat.eq_of_beq_eq_true hb) h
   rw [this] at q
   rw [if_neg h]
   exact q
 | _ => exact q
theorem c_if {cx cy : Code} {b : Bool} (hA : FR n D a F) (hc : ev F c = some (.bool b)) (h1 : b = true → cx.wp P Q a w) (h2 : b = false → cy.wp P Q a w) : (Code.cond c cx cy).wp P Q a w :=
 wp_cond_split (hA.ev hc) h1 h2
theorem wp_reg {id : Nat} (h : wpList P ops Q ops.toList a w) : (Code.region id ops false).wp P Q a w := wp_region_list h
section one
variable (hA : FR n D a F) (kk : ∀ a', FR n D a' ((t, v) :: F) → wpList P ops Q rest a' w)
theorem x_val (hA : FR n D a F) (h : RunV P o a w v) (kk : ∀ a', FR n D a' ((t, v) :: F) → wpList P ops Q rest a' w) (hd : o.dst = some t := by rfl) (hg : o.guard = none := by rfl) (ht : Nat.blt t n = true := by rfl) : wpList P ops Q (o :: rest) a w :=
 wl hA hd hg (by have := Nat.le_of_ble_eq_true ht; omega) h kk
theorem x_move (hA : FR n D a F) (kk : ∀ a', FR n D a' ((t, v) :: F) → wpList P ops Q rest a' w) (ho : o.op = .move x := by rfl) (hx : ev F x = some v := by rfl) (hd : o.dst = some t := by rfl) (hg : o.guard = none := by rfl) (ht : Nat.blt t n = true := by rfl) : wpList P ops Q (o :: rest) a w :=
 x_val hA (r_move ho (hA.ev hx)) kk hd hg ht
theorem x_assign (hA : FR n D a F) (kk : ∀ a', FR n D a' ((t, v) :: F) → wpList P ops Q rest a' w) (ho : o.op = .assign x := by rfl) (hx : ev F x = some v := by rfl) (hd : o.dst = some t := by rfl) (hg : o.guard = none := by rfl) (ht : Nat.blt t n = true := by rfl) : wpList P ops Q (o :: rest) a w :=
 x_val hA (r_assign ho (hA.ev hx)) kk hd hg ht
end one
theorem bcase {b : Bool} {p : Prop} (h1 : b = true → p) (h2 : b = false → p) : p := by cases b; exact h2 rfl; exact h1 rfl
theorem x_pickt {cx x y : Operand} {b : Bool} (hb : b = true) (hA : FR n D a F) (kk : ∀ a', FR n D a' ((t, v) :: F) → wpList P ops Q rest a' w) (ho : o.op = .pick cx x y := by rfl) (hc : ev F cx = some (.bool b) := by rfl) (hx : ev F x = some v := by rfl) (hd : o.dst = some t := by rfl) (hg : o.guard = none := by rfl) (ht : Nat.blt t n = true := by rfl) : wpList P ops Q (o :: rest) a w :=
 x_val hA (r_pick_t ho (by rw [hA.ev hc, hb]) (hA.ev hx)) kk hd hg ht
theorem x_pickt' {cx x y : Operand} {b : Bool} (hb : b = true) (hA : FR n D a F) (kk : ∀ a', FR n D a' ((t, v) :: F) → wpList P ops Q rest a' w) (h_ : (o.op, ev F cx, ev F x, o.dst, o.guard, Nat.blt t n) = (.pick cx x y, some (.bool b), some v, some t, none, true)) : wpList P ops Q (o :: rest) a w := x_pickt (hb := hb) (hA := hA) (kk := kk) (congrArg (·.1) h_) (congrArg (·.2.1) h_) (congrArg (·.2.2.1) h_) (congrArg (·.2.2.2.1) h_) (congrArg (·.2.2.2.2.1) h_) (congrArg (·.2.2.2.2.2) h_)
theorem x_pickf {cx x y : Operand} {b : Bool} (hb : b = false) (hA : FR n D a F) (kk : ∀ a', FR n D a' ((t, v) :: F) → wpList P ops Q rest a' w) (ho : o.op = .pick cx x y := by rfl) (hc : ev F cx = some (.bool b) := by rfl) (hx : ev F y = some v := by rfl) (hd : o.dst = some t := by rfl) (hg : o.guard = none := by rfl) (ht : Nat.blt t n = true := by rfl) : wpList P ops Q (o :: rest) a w :=
 x_val hA (r_pick_f ho (by rw [hA.ev hc, hb]) (hA.ev hx)) kk hd hg ht
theorem x_pickf' {cx x y : Operand} {b : Bool} (hb : b = false) (hA : FR n D a F) (kk : ∀ a', FR n D a' ((t, v) :: F) → wpList P ops Q rest a' w) (h_ : (o.op, ev F cx, ev F y, o.dst, o.guard, Nat.blt t n) = (.pick cx x y, some (.bool b), some v, some t, none, true)) : wpList P ops Q (o :: rest) a w := x_pickf (hb := hb) (hA := hA) (kk := kk) (congrArg (·.1) h_) (congrArg (·.2.1) h_) (congrArg (·.2.2.1) h_) (congrArg (·.2.2.2.1) h_) (congrArg (·.2.2.2.2.1) h_) (congrArg (·.2.2.2.2.2) h_)
theorem x_on {j t : Nat} {b b' : Bool} (hb : b' = b) (hA : FR n D a F) (h : wpList P ops Q ({ o with guard := none } :: rest) a w) (hg : o.guard = some (j, b) := by rfl) (hj : (ops[j]?).bind (·.dst) = some t := by rfl) (hv : lk F t = some (.bool b') := by rfl) : wpList P ops Q (o :: rest) a w := by
 subst hb
 exact wl_on hA hg hj hv h
theorem x_on' {j t : Nat} {b b' : Bool} (hb : b' = b) (hA : FR n D a F) (h : wpList P ops Q ({ o with guard := none } :: rest) a w) (h_ : (o.guard, (ops[j]?).bind (·.dst), lk F t) = (some (j, b), some t, some (.bool b'))) : wpList P ops Q (o :: rest) a w := x_on (hb := hb) (hA := hA) (h := h) (congrArg (·.1) h_) (congrArg (·.2.1) h_) (congrArg (·.2.2) h_)
theorem x_off {j t t' : Nat} {b b' : Bool} (hb : b' = !b) (hA : FR n D a F) (kk : ∀ a', FR n D a' ((t', undef) :: F) → wpList P ops Q rest a' w) (hg : o.guard = some (j, b) := by rfl) (hj : (ops[j]?).bind (·.dst) = some t := by rfl) (hv : lk F t = some (.bool b') := by rfl) (hd : o.dst = some t' := by rfl) (ht : Nat.blt t' n = true := by rfl) : wpList P ops Q (o :: rest) a w :=
 wl_off hA hg hj hv (by subst hb; cases b <;> rfl) hd (by have := Nat.le_of_ble_eq_true ht; omega) kk
theorem c_t {cx cy : Code} {b : Bool} (hb : b = true) (hA : FR n D a F) (h1 : cx.wp P Q a w) (hc : ev F c = some (.bool b) := by rfl) : (Code.cond c cx cy).wp P Q a w := wp_cond_true (by rw [hA.ev hc, hb]) h1
theorem c_f {cx cy : Code} {b : Bool} (hb : b = false) (hA : FR n D a F) (h1 : cy.wp P Q a w) (hc : ev F c = some (.bool b) := by rfl) : (Code.cond c cx cy).wp P Q a w := wp_cond_false (by rw [hA.ev hc, hb]) h1
theorem x_box {cs : List Value} (hA : FR n D a F) (hS : SH r L w) (kk : ∀ g a' w', SH r (blk g T cs :: L) w' → FR n D a' ((t, .pointer (some ⟨g, 0, none⟩)) :: F) → wpList P ops Q rest a' w')
  (ho : o.op = .box T x := by rfl) (hx : ev F x = some v := by rfl) (hcs : v.cells = cs.toArray := by rfl) (hd : o.dst = some t := by rfl) (hg : o.guard = none := by rfl) (ht : Nat.blt t n = true := by rfl) : wpList P ops Q (o :: rest) a w :=
 wl_eff hg fun K hK => e_box hS ho (hA.ev hx) hcs fun g w' hS' => hK _ _ (kk g _ w' hS' (by rw [hd]; exact hA.put t _ (by have := Nat.le_of_ble_eq_true ht; omega)))
theorem x_box' {cs : List Value} (hA : FR n D a F) (hS : SH r L w) (kk : ∀ g a' w', SH r (blk g T cs :: L) w' → FR n D a' ((t, .pointer (some ⟨g, 0, none⟩)) :: F) → wpList P ops Q rest a' w') (h_ : (o.op, ev F x, v.cells, o.dst, o.guard, Nat.blt t n) = (.box T x, some v, cs.toArray, some t, none, true)) : wpList P ops Q (o :: rest) a w := x_box (hA := hA) (hS := hS) (kk := kk) (congrArg (·.1) h_) (congrArg (·.2.1) h_) (congrArg (·.2.2.1) h_) (congrArg (·.2.2.2.1) h_) (congrArg (·.2.2.2.2.1) h_) (congrArg (·.2.2.2.2.2) h_)
theorem x_alloc {cs : List Value} {z : Value} (hz : (P.info? T).bind (·.zero) = some z) (hA : FR n D a F) (hS : SH r L w) (kk : ∀ g a' w', SH r (blk g T cs :: L) w' → FR n D a' ((t, .pointer (some ⟨g, 0, none⟩)) :: F) → wpList P ops Q rest a' w')
  (ho : o.op = .alloc T := by rfl) (hcs : z.cells = cs.toArray := by rfl) (hd : o.dst = some t := by rfl) (hg : o.guard = none := by rfl) (ht : Nat.blt t n = true := by rfl) : wpList P ops Q (o :: rest) a w :=
 wl_eff hg fun K hK => e_alloc hS ho hz hcs fun g w' hS' => hK _ _ (kk g _ w' hS' (by rw [hd]; exact hA.put t _ (by have := Nat.le_of_ble_eq_true ht; omega)))
theorem x_alloc' {cs : List Value} {z : Value} (hz : (P.info? T).bind (·.zero) = some z) (hA : FR n D a F) (hS : SH r L w) (kk : ∀ g a' w', SH r (blk g T cs :: L) w' → FR n D a' ((t, .pointer (some ⟨g, 0, none⟩)) :: F) → wpList P ops Q rest a' w') (h_ : (o.op, z.cells, o.dst, o.guard, Nat.blt t n) = (.alloc T, cs.toArray, some t, none, true)) : wpList P ops Q (o :: rest) a w := x_alloc (hz := hz) (hA := hA) (hS := hS) (kk := kk) (congrArg (·.1) h_) (congrArg (·.2.1) h_) (congrArg (·.2.2.1) h_) (congrArg (·.2.2.2.1) h_) (congrArg (·.2.2.2.2) h_)
theorem x_bsl {m : Nat} {parts : Array (Nat × Operand)} {ps : Array (Nat × Value)} {cells : List Value} {xs : List α}
  (hr : ∀ w : World, (Instr.buildSlice t' m ps).run P w = .ok (.slice (some ⟨w.heap.size, 0, none⟩) m m) (w.alloc (.cells cells.toArray e))) (hm : xs.length = m) (hL : Lay d xs cells) (hA : FR n D a F) (hS : SH r L w)
  (kk : ∀ g a' w', SH r (own d e (some ⟨g, 0, none⟩) m m xs :: L) w' → FR n D a' ((t, .slice (some ⟨g, 0, none⟩) m m) :: F) → wpList P ops Q rest a' w')
  (ho : o.op = .buildSlice t' m parts := by rfl) (hx : parts.toList.map (fun p => (p.1, ev F p.2)) = ps.toList.map (fun p => (p.1, some p.2)) := by rfl) (hmx : Nat.ble m 65536 = true := by rfl) (hd : o.dst = some t := by rfl) (hg : o.guard = none := by rfl) (ht : Nat.blt t n = true := by rfl) : wpList P ops Q (o :: rest) a w :=
 wl_eff hg fun K hK => e_buildSlice hS ho (ps := ps) (by
  have key : ∀ (l : List (Nat × Operand)) (q : List (Nat × Value)), l.map (fun p => (p.1, ev F p.2)) = q.map (fun p => (p.1, some p.2)) → l.map (fun p => (p.1, a.eval p.2)) = q := by
   intro l
   induction l with
   | nil => intro q h; cases q with | nil => rfl | cons _ _ => cases h
   | cons p l ih =>
    intro q h
    cases q with
    | nil => cases h
    | cons p' q =>
     simp only [List.map_cons, List.cons.injEq, Prod.mk.injEq] at h ⊢
     exact ⟨Prod.ext h.1.1 (hA.ev h.1.2), ih q h.2⟩
  apply Array.ext'
  rw [Array.toList_map]
  exact key _ _ hx) hr hm (by have := Nat.le_of_ble_eq_true hmx; simp only [maxLen]; omega) hL fun g w' hS' => hK _ _ (kk g _ w' hS' (by rw [hd]; exact hA.put t _ (by have := Nat.le_of_ble_eq_true ht; omega)))
theorem x_bsl' {m : Nat} {parts : Array (Nat × Operand)} {ps : Array (Nat × Value)} {cells : List Value} {xs : List α}
  (hr : ∀ w : World, (Instr.buildSlice t' m ps).run P w = .ok (.slice (some ⟨w.heap.size, 0, none⟩) m m) (w.alloc (.cells cells.toArray e))) (hm : xs.length = m) (hL : Lay d xs cells) (hA : FR n D a F) (hS : SH r L w)
  (kk : ∀ g a' w', SH r (own d e (some ⟨g, 0, none⟩) m m xs :: L) w' → FR n D a' ((t, .slice (some ⟨g, 0, none⟩) m m) :: F) → wpList P ops Q rest a' w') (h_ : (o.op, parts.toList.map (fun p => (p.1, ev F p.2)), Nat.ble m 65536, o.dst, o.guard, Nat.blt t n) = (.buildSlice t' m parts, ps.toList.map (fun p => (p.1, some p.2)), true, some t, none, true)) : wpList P ops Q (o :: rest) a w := x_bsl (hr := hr) (hm := hm) (hL := hL) (hA := hA) (hS := hS) (kk := kk) (congrArg (·.1) h_) (congrArg (·.2.1) h_) (congrArg (·.2.2.1) h_) (congrArg (·.2.2.2.1) h_) (congrArg (·.2.2.2.2.1) h_) (congrArg (·.2.2.2.2.2) h_)
theorem x_mks {l : Operand} {kl : IntKind} {m : Int} {z : Value} {bytes : Nat} (z0 : α) (hi : (P.info? e).map (fun i => (i.zero, i.size, i.bytes)) = some (some z, d.sz, bytes)) (hz : d.V z0 z.cells.toList) (ht' : P.underlying t' = some (.slice e)) (hm : 0 ≤ m ∧ (bytes : Int) * m ≤ 140737488355328) (hA : FR n D a F) (hS : SH r L w)
  (kk : ∀ g a' w', SH r (own d e (some ⟨g, 0, none⟩) m.toNat m.toNat (List.replicate m.toNat z0) :: L) w' → FR n D a' ((t, .slice (some ⟨g, 0, none⟩) m.toNat m.toNat) :: F) → wpList P ops Q rest a' w')
  (hb : Nat.blt 0 bytes = true := by rfl) (ho : o.op = .makeSlice t' l l := by rfl) (hl : ev F l = some (.int kl m) := by rfl) (hd : o.dst = some t := by rfl) (hg : o.guard = none := by rfl) (ht : Nat.blt t n = true := by rfl) : wpList P ops Q (o :: rest) a w :=
 wl_eff hg fun K hK => e_makeSlice hS ht' hi ho (hA.ev hl) hz hm.1 hm.2 (by have := Nat.le_of_ble_eq_true hb; omega) fun g w' hS' => hK _ _ (kk g _ w' hS' (by rw [hd]; exact hA.put t _ (by have := Nat.le_of_ble_eq_true ht; omega)))
theorem x_mks' {l : Operand} {kl : IntKind} {m : Int} {z : Value} {bytes : Nat} (z0 : α) (hi : (P.info? e).map (fun i => (i.zero, i.size, i.bytes)) = some (some z, d.sz, bytes)) (hz : d.V z0 z.cells.toList) (ht' : P.underlying t' = some (.slice e)) (hm : 0 ≤ m ∧ (bytes : Int) * m ≤ 140737488355328) (hA : FR n D a F) (hS : SH r L w)
  (kk : ∀ g a' w', SH r (own d e (some ⟨g, 0, none⟩) m.toNat m.toNat (List.replicate m.toNat z0) :: L) w' → FR n D a' ((t, .slice (some ⟨g, 0, none⟩) m.toNat m.toNat) :: F) → wpList P ops Q rest a' w') (h_ : (Nat.blt 0 bytes, o.op, ev F l, o.dst, o.guard, Nat.blt t n) = (true, .makeSlice t' l l, some (.int kl m), some t, none, true)) : wpList P ops Q (o :: rest) a w := x_mks (z0 := z0) (hi := hi) (hz := hz) (ht' := ht') (hm := hm) (hA := hA) (hS := hS) (kk := kk) (congrArg (·.1) h_) (congrArg (·.2.1) h_) (congrArg (·.2.2.1) h_) (congrArg (·.2.2.2.1) h_) (congrArg (·.2.2.2.2.1) h_) (congrArg (·.2.2.2.2.2) h_)
theorem x_app (q : Nat) {z : Value} {bytes n1 c1 n2 c2 : Nat} {A A2 : Option Addr} {xs ys : List α} {L' : List HP} (hi : (P.info? e).map (fun i => (i.zero, i.size, i.bytes)) = some (some z, d.sz, bytes)) (ht' : P.underlying t' = some (.slice e)) (hA : FR n D a F) (hS : SH r L w) (hr : Rd d w A2 ys) (hn2 : ys.length = n2)
  (hb : xs.length + ys.length ≤ 140737488355328 / bytes) (hL : pk q L = own d e A n1 c1 xs :: L')
  (kk : ∀ A' n' c' a' w', SH r (own d e A' n' c' (xs ++ ys) :: L') w' → FR n D a' ((t, .slice A' n' c') :: F) → wpList P ops Q rest a' w')
  (hz : z.cells.size = d.sz := by rfl) (hsz : Nat.blt 0 d.sz = true := by rfl) (hbp : Nat.blt 0 bytes = true := by rfl) (ho : o.op = .call { callee := .builtin .append, args := #[x, y], argTypes := #[t', t'] } := by rfl) (hx : ev F x = some (.slice A n1 c1) := by rfl) (hy : ev F y = some (.slice A2 n2 c2) := by rfl)
  (hd : o.dst = some t := by rfl) (hg : o.guard = none := by rfl) (ht : Nat.blt t n = true := by rfl) : wpList P ops Q (o :: rest) a w :=
 have hbp' := Nat.le_of_ble_eq_true hbp
 have hb' : (xs.length + ys.length) * bytes ≤ 140737488355328 := Nat.le_trans (Nat.mul_le_mul_right _ hb) (Nat.div_mul_le_self _ _)
 wl_eff hg fun K hK => e_append q hS hL ht' hi hz (by have := Nat.le_of_ble_eq_true hsz; omega) ho (hA.ev hx) (hA.ev hy) hr hn2 (by
  have h1 : (xs.length + ys.length) * 1 ≤ (xs.length + ys.length) * bytes := Nat.mul_le_mul_left _ (by omega)
  simp only [maxLen]; omega) hb' fun A' n' c' w' hS' => hK _ _ (kk A' n' c' _ w' hS' (by rw [hd]; exact hA.put t _ (by have := Nat.le_of_ble_eq_true ht; omega)))
theorem x_app' (q : Nat) {z : Value} {bytes n1 c1 n2 c2 : Nat} {A A2 : Option Addr} {xs ys : List α} {L' : List HP} (hi : (P.info? e).map (fun i => (i.zero, i.size, i.bytes)) = some (some z, d.sz, bytes)) (ht' : P.underlying t' = some (.slice e)) (hA : FR n D a F) (hS : SH r L w) (hr : Rd d w A2 ys) (hn2 : ys.length = n2)
  (hb : xs.length + ys.length ≤ 140737488355328 / bytes) (hL : pk q L = own d e A n1 c1 xs :: L')
  (kk : ∀ A' n' c' a' w', SH r (own d e A' n' c' (xs ++ ys) :: L') w' → FR n D a' ((t, .slice A' n' c') :: F) → wpList P ops Q rest a' w') (h_ : (z.cells.size, Nat.blt 0 d.sz, Nat.blt 0 bytes, o.op, ev F x, ev F y, o.dst, o.guard, Nat.blt t n) = (d.sz, true, true, .call { callee := .builtin .append, args := #[x, y], argTypes := #[t', t'] }, some (.slice A n1 c1), some (.slice A2 n2 c2), some t, none, true)) : wpList P ops Q (o :: rest) a w := x_app (q := q) (hi := hi) (ht' := ht') (hA := hA) (hS := hS) (hr := hr) (hn2 := hn2) (hb := hb) (hL := hL) (kk := kk) (congrArg (·.1) h_) (congrArg (·.2.1) h_) (congrArg (·.2.2.1) h_) (congrArg (·.2.2.2.1) h_) (congrArg (·.2.2.2.2.1) h_) (congrArg (·.2.2.2.2.2.1) h_) (congrArg (·.2.2.2.2.2.2.1) h_) (congrArg (·.2.2.2.2.2.2.2.1) h_) (congrArg (·.2.2.2.2.2.2.2.2) h_)
theorem x_stb (q : Nat) {g off : Nat} {cs vs : List Value} {L' : List HP} (hi : (P.info? t').map (·.size) = some vs.length) (hA : FR n D a F) (hS : SH r L w) (hL : pk q L = blk g T cs :: L')
  (kk : ∀ a' w', SH r (blk g T (splice cs off vs) :: L') w' → FR n D a' F → wpList P ops Q rest a' w')
  (ho : o.op = .store t' x y := by rfl) (hx : ev F x = some (.pointer (some ⟨g, off, none⟩)) := by rfl) (hy : ev F y = some v := by rfl) (hv : v.cells.toList = vs := by rfl) (h1 : vs.all (·.oneCell') = true := by rfl) (hl : Nat.ble (off + vs.length) cs.length = true := by rfl) (hd : o.dst = none := by rfl) (hg : o.guard = none := by rfl) : wpList P ops Q (o :: rest) a w :=
 wl_eff hg fun K hK => e_store_blk q hS hL ho (hA.ev hx) (hA.ev hy) hv (fun v hv => List.all_eq_true.1 h1 v hv) (Nat.le_of_ble_eq_true hl) hi fun w' hS' => hK _ _ (kk _ w' hS' (by rw [hd]; exact hA))
theorem x_stb' (q : Nat) {g off : Nat} {cs vs : List Value} {L' : List HP} (hi : (P.info? t').map (·.size) = some vs.length) (hA : FR n D a F) (hS : SH r L w) (hL : pk q L = blk g T cs :: L')
  (kk : ∀ a' w', SH r (blk g T (splice cs off vs) :: L') w' → FR n D a' F → wpList P ops Q rest a' w') (h_ : (o.op, ev F x, ev F y, v.cells.toList, vs.all (·.oneCell'), Nat.ble (off + vs.length) cs.length, o.dst, o.guard) = (.store t' x y, some (.pointer (some ⟨g, off, none⟩)), some v, vs, true, true, none, none)) : wpList P ops Q (o :: rest) a w := x_stb (q := q) (hi := hi) (hA := hA) (hS := hS) (hL := hL) (kk := kk) (congrArg (·.1) h_) (congrArg (·.2.1) h_) (congrArg (·.2.2.1) h_) (congrArg (·.2.2.2.1) h_) (congrArg (·.2.2.2.2.1) h_) (congrArg (·.2.2.2.2.2.1) h_) (congrArg (·.2.2.2.2.2.2.1) h_) (congrArg (·.2.2.2.2.2.2.2) h_)
theorem x_sto (q : Nat) {A : Option Addr} {n1 c1 off j : Nat} {xs : List α} {z z' : α} {vs : List Value} {L' : List HP} (hi : (P.info? t').map (·.size) = some vs.length) (hA : FR n D a F) (hS : SH r L w) (hL : pk q L = own d e A n1 c1 xs :: L') (hj : xs[j]? = some z) (hV : ∀ c, d.V z c → d.V z' (splice c off vs))
  (kk : ∀ a' w', SH r (own d e A n1 c1 (xs.set j z') :: L') w' → FR n D a' F → wpList P ops Q rest a' w')
  (ho : o.op = .store t' x y := by rfl) (hx : ev F x = some (.pointer (some (ea A (j * d.sz + off)))) := by rfl) (hy : ev F y = some v := by rfl) (hv : v.cells.toList = vs := by rfl) (h1 : vs.all (·.oneCell') = true := by rfl) (hl : Nat.ble (off + vs.length) d.sz = true := by rfl) (hd : o.dst = none := by rfl) (hg : o.guard = none := by rfl) : wpList P ops Q (o :: rest) a w :=
 wl_eff hg fun K hK => e_store_own q hS hL ho (hA.ev hx) (hA.ev hy) hv (fun v hv => List.all_eq_true.1 h1 v hv) (Nat.le_of_ble_eq_true hl) hi hj hV fun w' hS' => hK _ _ (kk _ w' hS' (by rw [hd]; exact hA))
theorem evs (hA : FR n D a F) {az : Array Operand} {vals : Array Value} (h : az.toList.map (ev F) = vals.toList.map some) : az.map a.eval = vals := by
 have key : ∀ (l : List Operand) (q : List Value), l.map (ev F) = q.map some → l.map a.eval = q := by
  intro l
  induction l with
  | nil => intro q h; cases q with | nil => rfl | cons _ _ => cases h
  | cons p l ih =>
   intro q h
   cases q with
   | nil => cases h
   | cons p' q =>
    simp only [List.map_cons, List.cons.injEq] at h ⊢
    exact ⟨hA.ev h.1, ih q h.2⟩
 apply Array.ext'
 rw [Array.toList_map]
 exact key _ _ h
theorem x_call {f : FuncId} {az : Array Operand} {ts : Array TypeId} {vals : Array Value} {R : Value → World → Prop} (hf : EN P f) (hA : FR n D a F) (hC : Ret P f vals w R) (kk : ∀ v a' w', R v w' → FR n D a' ((t, v) :: F) → wpList P ops Q rest a' w')
  (ho : o.op = .call { callee := .value (.func f), args := az, argTypes := ts } := by rfl) (hargs : az.toList.map (ev F) = vals.toList.map some := by rfl) (hd : o.dst = some t := by rfl) (hg : o.guard = none := by rfl) (ht : Nat.blt t n = true := by rfl) : wpList P ops Q (o :: rest) a w :=
 wl_eff hg fun K hK => e_call hf ho (evs hA hargs) hC fun v w' hR => hK _ _ (kk v _ w' hR (by rw [hd]; exact hA.put t _ (by have := Nat.le_of_ble_eq_true ht; omega)))
theorem x_call' {f : FuncId} {az : Array Operand} {ts : Array TypeId} {vals : Array Value} {R : Value → World → Prop} (hf : EN P f) (hA : FR n D a F) (hC : Ret P f vals w R) (kk : ∀ v a' w', R v w' → FR n D a' ((t, v) :: F) → wpList P ops Q rest a' w') (h_ : (o.op, az.toList.map (ev F), o.dst, o.guard, Nat.blt t n) = (.call { callee := .value (.func f), args := az, argTypes := ts }, vals.toList.map some, some t, none, true)) : wpList P ops Q (o :: rest) a w := x_call (hf := hf) (hA := hA) (hC := hC) (kk := kk) (congrArg (·.1) h_) (congrArg (·.2.1) h_) (congrArg (·.2.2.1) h_) (congrArg (·.2.2.2.1) h_) (congrArg (·.2.2.2.2) h_)
theorem SH.cell (hS : SH r L w) (q : Nat) {g : Nat} {cs : List Value} (h : L[q]? = some (blk g T cs)) : ∀ off v, cs[off]? = some v → w.cell? ⟨g, off, none⟩ = some v := by
 intro off v hv
 obtain ⟨S, hb⟩ := hS.get q h
 simp [World.cell?, hb.2, hv]
theorem SH.rd (hS : SH r L w) (q : Nat) {A : Option Addr} {m c : Nat} {xs : List α} (h : L[q]? = some (own d e A m c xs)) : Rd d w A xs ∧ xs.length = m ∧ m ≤ c ∧ c ≤ maxLen := by
 obtain ⟨S, hb⟩ := hS.get q h
 have := own_le hb
 exact ⟨own_rd hb, hb.1, by rw [← hb.1]; exact this.1, this.2⟩
theorem SH.rdl (hS : SH r L w) (q : Nat) {L0 : List HP} {A : Option Addr} {m c : Nat} {xs : List α} (h : RdL L0 d A m c xs) (hL : L.drop q = L0) : Rd d w A xs ∧ xs.length = m ∧ m ≤ c ∧ c ≤ maxLen := ⟨h.rd w _ (hL ▸ hS.sfx q), h.ln, by rw [← h.ln]; exact h.le, h.mx⟩
theorem SH.imm (hS : SH r L w) (q : Nat) {Z : Nat → Prop} {wz : World} {A : Option Addr} {m c : Nat} {xs : List α} (h : Imm Z wz d A m c xs) (hL : L[q]? = some (zone Z wz)) : Rd d w A xs ∧ xs.length = m ∧ m ≤ c ∧ c ≤ maxLen := ⟨(h.rdl q hL).rd w _ hS.sep, h.ln, by rw [← h.ln]; exact h.le, h.mx⟩
theorem x_len {A : Option Addr} {m c : Nat} {xs : List α} (hu : P.underlying t' = some (.slice e)) (hn : xs.length = m) (hA : FR n D a F) (kk : ∀ a', FR n D a' ((t, .int .i64 (xs.length : Int)) :: F) → wpList P ops Q rest a' w)
  (ho : o.op = .call { callee := .builtin .len, args := #[x], argTypes := #[t'] } := by rfl) (hx : ev F x = some (.slice A m c) := by rfl) (hd : o.dst = some t := by rfl) (hg : o.guard = none := by rfl) (ht : Nat.blt t n = true := by rfl) : wpList P ops Q (o :: rest) a w :=
 x_val hA (by rw [hn]; exact r_len hu ho (hA.ev hx)) kk hd hg ht
theorem x_len' {A : Option Addr} {m c : Nat} {xs : List α} (hu : P.underlying t' = some (.slice e)) (hn : xs.length = m) (hA : FR n D a F) (kk : ∀ a', FR n D a' ((t, .int .i64 (xs.length : Int)) :: F) → wpList P ops Q rest a' w) (h_ : (o.op, ev F x, o.dst, o.guard, Nat.blt t n) = (.call { callee := .builtin .len, args := #[x], argTypes := #[t'] }, some (.slice A m c), some t, none, true)) : wpList P ops Q (o :: rest) a w := x_len (hu := hu) (hn := hn) (hA := hA) (kk := kk) (congrArg (·.1) h_) (congrArg (·.2.1) h_) (congrArg (·.2.2.1) h_) (congrArg (·.2.2.2.1) h_) (congrArg (·.2.2.2.2) h_)
theorem x_ia {A : Option Addr} {m c sz : Nat} {xs : List α} {z : α} (hu : P.underlying t' = some (.slice e)) (hi : (P.info? e).map (·.size) = some sz) (hr : Rd d w A xs ∧ xs.length = m ∧ m ≤ c ∧ c ≤ maxLen) (hz : at_ xs i = some z) (hA : FR n D a F)
  (kk : ∀ a', FR n D a' ((t, .pointer (some (ea A (i.toNat * sz)))) :: F) → wpList P ops Q rest a' w)
  (ho : o.op = .indexAddr t' x y := by rfl) (hx : ev F x = some (.slice A m c) := by rfl) (hy : ev F y = some (.int k i) := by rfl) (hd : o.dst = some t := by rfl) (hg : o.guard = none := by rfl) (ht : Nat.blt t n = true := by rfl) : wpList P ops Q (o :: rest) a w :=
 have h := at_some hz
 x_val hA (r_indexAddr hu hi ho (hA.ev hx) (hA.ev hy) (hr.1.isSome_ h.1 h.2.1) h.1 (by have := hr.2.1; omega)) kk hd hg ht
theorem x_ia' {A : Option Addr} {m c sz : Nat} {xs : List α} {z : α} (hu : P.underlying t' = some (.slice e)) (hi : (P.info? e).map (·.size) = some sz) (hr : Rd d w A xs ∧ xs.length = m ∧ m ≤ c ∧ c ≤ maxLen) (hz : at_ xs i = some z) (hA : FR n D a F)
  (kk : ∀ a', FR n D a' ((t, .pointer (some (ea A (i.toNat * sz)))) :: F) → wpList P ops Q rest a' w) (h_ : (o.op, ev F x, ev F y, o.dst, o.guard, Nat.blt t n) = (.indexAddr t' x y, some (.slice A m c), some (.int k i), some t, none, true)) : wpList P ops Q (o :: rest) a w := x_ia (hu := hu) (hi := hi) (hr := hr) (hz := hz) (hA := hA) (kk := kk) (congrArg (·.1) h_) (congrArg (·.2.1) h_) (congrArg (·.2.2.1) h_) (congrArg (·.2.2.2.1) h_) (congrArg (·.2.2.2.2.1) h_) (congrArg (·.2.2.2.2.2) h_)
theorem el {A : Option Addr} {m c : Nat} {xs : List α} {z : α} (hr : Rd d w A xs ∧ xs.length = m ∧ m ≤ c ∧ c ≤ maxLen) (hz : at_ xs i = some z) : ∃ cs, d.V z cs ∧ ∀ q u, cs[q]? = some u → w.cell? (ea A (i.toNat * d.sz + q)) = some u := hr.1.elem (at_some hz).2.2
theorem x_ld {dd : TypeDesc} {ad : Addr} (hu : P.underlying t' = some dd) (hc : w.cell? ad = some v) (hA : FR n D a F) (kk : ∀ a', FR n D a' ((t, v) :: F) → wpList P ops Q rest a' w) (hf : flat dd = true := by rfl)
  (ho : o.op = .load t' x := by rfl) (hx : ev F x = some (.pointer (some ad)) := by rfl) (hd : o.dst = some t := by rfl) (hg : o.guard = none := by rfl) (ht : Nat.blt t n = true := by rfl) : wpList P ops Q (o :: rest) a w :=
 x_val hA (r_load hu hf ho (hA.ev hx) hc) kk hd hg ht
theorem x_ld' {dd : TypeDesc} {ad : Addr} (hu : P.underlying t' = some dd) (hc : w.cell? ad = some v) (hA : FR n D a F) (kk : ∀ a', FR n D a' ((t, v) :: F) → wpList P ops Q rest a' w) (h_ : (flat dd, o.op, ev F x, o.dst, o.guard, Nat.blt t n) = (true, .load t' x, some (.pointer (some ad)), some t, none, true)) : wpList P ops Q (o :: rest) a w := x_ld (hu := hu) (hc := hc) (hA := hA) (kk := kk) (congrArg (·.1) h_) (congrArg (·.2.1) h_) (congrArg (·.2.2.1) h_) (congrArg (·.2.2.2.1) h_) (congrArg (·.2.2.2.2.1) h_) (congrArg (·.2.2.2.2.2) h_)
theorem x_lda {dd : TypeDesc} {ad : Addr} {cs : List Value} (hu : P.underlying t' = some dd) (hi : (P.info? t').map (·.size) = some cs.length) (hc : ∀ j u, cs[j]? = some u → w.cell? (ad.add j) = some u) (hA : FR n D a F) (kk : ∀ a', FR n D a' ((t, .agg cs.toArray) :: F) → wpList P ops Q rest a' w) (hf : flat dd = false := by rfl)
  (ho : o.op = .load t' x := by rfl) (hx : ev F x = some (.pointer (some ad)) := by rfl) (hd : o.dst = some t := by rfl) (hg : o.guard = none := by rfl) (ht : Nat.blt t n = true := by rfl) : wpList P ops Q (o :: rest) a w :=
 x_val hA (r_loadAgg hu hf hi ho (hA.ev hx) hc) kk hd hg ht
theorem x_lda' {dd : TypeDesc} {ad : Addr} {cs : List Value} (hu : P.underlying t' = some dd) (hi : (P.info? t').map (·.size) = some cs.length) (hc : ∀ j u, cs[j]? = some u → w.cell? (ad.add j) = some u) (hA : FR n D a F) (kk : ∀ a', FR n D a' ((t, .agg cs.toArray) :: F) → wpList P ops Q rest a' w) (h_ : (flat dd, o.op, ev F x, o.dst, o.guard, Nat.blt t n) = (false, .load t' x, some (.pointer (some ad)), some t, none, true)) : wpList P ops Q (o :: rest) a w := x_lda (hu := hu) (hi := hi) (hc := hc) (hA := hA) (kk := kk) (congrArg (·.1) h_) (congrArg (·.2.1) h_) (congrArg (·.2.2.1) h_) (congrArg (·.2.2.2.1) h_) (congrArg (·.2.2.2.2.1) h_) (congrArg (·.2.2.2.2.2) h_)
section cuts
variable {A : Option Addr} {m c1 sz : Nat} {l u : Int} {kl kh : IntKind} {lo hi : Operand} {xs ys : List α} {L0 : List HP}
end cuts
theorem EN_of {fn : Func} {f : FuncId} (hf : P.funcs[f]? = some fn) (hname : (fn.name == "runtime.NumGoroutine") = false) (hb : fn.body.isSome = true) : EN P f := by
 intro args w
 have hb' : fn.body.isNone = false := by cases h : fn.body <;> simp_all
 have hne : ¬ fn.name = "runtime.NumGoroutine" := by simpa using hname
 have hbn : ¬ fn.body = none := by intro h; rw [h] at hb; cases hb
 simp [callFunc, hf, hne, hbn]
end
section
variable {P : Program} {ops : Array Oper} {Q : Exit → Act → World → Prop} {rest : List Oper} {o : Oper} {a : Act} {w w' : World} {K : Act → World → Prop}
 {n : Nat} {D : List Deferred} {F : List (Nat × Value)} {r : World} {L : List HP} {α : Type} {d : Kd α} {x y c : Operand} {t' e T xt yt : TypeId} {v : Value} {t : Nat} {k : IntKind} {i j : Int} {s u : List UInt8}
theorem x_fab {s i off g o' : Nat} (hf : FA P s i off) (hA : FR n D a F) (kk : ∀ a', FR n D a' ((t, .pointer (some ⟨g, o' + off, none⟩)) :: F) → wpList P ops Q rest a' w) (ho : o.op = .fieldAddr s x i := by rfl) (hx : ev F x = some (.pointer (some ⟨g, o', none⟩)) := by rfl) (hd : o.dst = some t := by rfl) (hg : o.guard = none := by rfl) (ht : Nat.blt t n = true := by rfl) : wpList P ops Q (o :: rest) a w :=
 x_val hA (by rw [← add_mk]; exact r_fieldAddr hf ho (hA.ev hx)) kk hd hg ht
theorem x_fab' {s i off g o' : Nat} (hf : FA P s i off) (hA : FR n D a F) (kk : ∀ a', FR n D a' ((t, .pointer (some ⟨g, o' + off, none⟩)) :: F) → wpList P ops Q rest a' w) (h_ : (o.op, ev F x, o.dst, o.guard, Nat.blt t n) = (.fieldAddr s x i, some (.pointer (some ⟨g, o', none⟩)), some t, none, true)) : wpList P ops Q (o :: rest) a w := x_fab (hf := hf) (hA := hA) (kk := kk) (congrArg (·.1) h_) (congrArg (·.2.1) h_) (congrArg (·.2.2.1) h_) (congrArg (·.2.2.2.1) h_) (congrArg (·.2.2.2.2) h_)
theorem x_fae {s i off m : Nat} {A : Option Addr} (hf : FA P s i off) (hA : FR n D a F) (kk : ∀ a', FR n D a' ((t, .pointer (some (ea A (m + off)))) :: F) → wpList P ops Q rest a' w) (ho : o.op = .fieldAddr s x i := by rfl) (hx : ev F x = some (.pointer (some (ea A m))) := by rfl) (hd : o.dst = some t := by rfl) (hg : o.guard = none := by rfl) (ht : Nat.blt t n = true := by rfl) : wpList P ops Q (o :: rest) a w :=
 x_val hA (by rw [← ea_add]; exact r_fieldAddr hf ho (hA.ev hx)) kk hd hg ht
theorem mapev (hA : FR n D a F) {az : Array Operand} {vals : Array Value} (h : az.toList.map (ev F) = vals.toList.map some) : az.map a.eval = vals := evs hA h
theorem mapev2 (hA : FR n D a F) {parts : Array (Nat × Operand)} {ps : Array (Nat × Value)} (hx : parts.toList.map (fun p => (p.1, ev F p.2)) = ps.toList.map (fun p => (p.1, some p.2))) : parts.map (fun (i, x) => (i, a.eval x)) = ps := by
 have key : ∀ (l : List (Nat × Operand)) (q : List (Nat × Value)), l.map (fun p => (p.1, ev F p.2)) = q.map (fun p => (p.1, some p.2)) → l.map (fun p => (p.1, a.eval p.2)) = q := by
  intro l
  induction l with
  | nil => intro q h; cases q with | nil => rfl | cons _ _ => cases h
  | cons p l ih =>
   intro q h
   cases q with
   | nil => cases h
   | cons p' q =>
    simp only [List.map_cons, List.cons.injEq, Prod.mk.injEq] at h ⊢
    exact ⟨Prod.ext h.1.1 (hA.ev h.1.2), ih q h.2⟩
 apply Array.ext'
 rw [Array.toList_map]
 exact key _ _ hx
theorem SH.dropN {L : List HP} (h : SH r L w) (m : Nat) : SH r (L.drop m) w := ⟨h.os, h.tape, h.output, h.sfx m⟩
def optP {α : Type} (f : Nat → α → HP) (p : Option Addr) (o : Option α) : HP where
 P w S := match o with
  | none => p = none
  | some x => ∃ g, p = some ⟨g, 0, none⟩ ∧ (f g x).P w S
 fr := fun {w w' S} h hk => by
  cases o with
  | none => exact h
  | some x => obtain ⟨g, hp, h⟩ := h; exact ⟨g, hp, (f g x).fr h hk⟩
 mono := fun {w S S'} h hs => by
  cases o with
  | none => exact h
  | some x => obtain ⟨g, hp, h⟩ := h; exact ⟨g, hp, (f g x).mono h hs⟩
theorem SH.optN {α : Type} (f : Nat → α → HP) {L : List HP} (h : SH r L w) : SH r (optP f none none :: L) w :=
 ⟨h.os, h.tape, h.output, fun _ => False, _, fun _ h => h.elim, fun _ h => h, fun _ h => h.elim, rfl, h.sep⟩
theorem SH.optS {α : Type} {f : Nat → α → HP} {g : Nat} {x : α} {L : List HP} (h : SH r (f g x :: L) w) : SH r (optP f (some ⟨g, 0, none⟩) (some x) :: L) w := h.imp fun _ h => ⟨g, rfl, h⟩
theorem SH.unoptN {α : Type} {f : Nat → α → HP} {p : Option Addr} {L : List HP} (h : SH r (optP f p none :: L) w) : p = none ∧ SH r L w := by
 obtain ⟨S, hp⟩ := h.get 0 rfl
 exact ⟨hp, h.tail⟩
theorem SH.unoptS {α : Type} {f : Nat → α → HP} {p : Option Addr} {x : α} {L : List HP} (h : SH r (optP f p (some x) :: L) w) : ∃ g, p = some ⟨g, 0, none⟩ ∧ SH r (f g x :: L) w := by
 obtain ⟨S1, S2, h1, h2, hd', ⟨g, hp, hA⟩, hL⟩ := h.sep
 exact ⟨g, hp, h.os, h.tape, h.output, S1, S2, h1, h2, hd', hA, hL⟩
theorem SH.optNone {α : Type} {f : Nat → α → HP} {p : Option Addr} {o : Option α} {L : List HP} (h : SH r L w) (q : Nat) (hq : L[q]? = some (optP f p o)) : p.isNone = o.isNone := by
 obtain ⟨S, hp⟩ := h.get q hq
 cases o with
 | none => rw [show p = none from hp]; rfl
 | some x => obtain ⟨g, hp, _⟩ := hp; rw [hp]; rfl
theorem lv2 {fn : Func} {R : Value → World → Prop} {t u : Nat} {v1 v2 : Value} (hr : fn.results = #[.tmp t, .tmp u]) (hA : FR n [] a F) (h1 : lk F t = some v1) (h2 : lk F u = some v2) (h : R (.tuple #[v1, v2]) w) : bodyPost P fn (fun e w' => ∃ v, e = .returned v ∧ R v w') .ret a w :=
 bodyPost_ret (by rw [results_tmp2 hr, show a.tmps.getD t undef = v1 from hA.ev (x := .tmp t) h1, show a.tmps.getD u undef = v2 from hA.ev (x := .tmp u) h2]) hA.defers ⟨_, rfl, h⟩
theorem lv3 {fn : Func} {R : Value → World → Prop} {t u q : Nat} {v1 v2 v3 : Value} (hr : fn.results = #[.tmp t, .tmp u, .tmp q]) (hA : FR n [] a F) (h1 : lk F t = some v1) (h2 : lk F u = some v2) (h3 : lk F q = some v3) (h : R (.tuple #[v1, v2, v3]) w) : bodyPost P fn (fun e w' => ∃ v, e = .returned v ∧ R v w') .ret a w :=
 bodyPost_ret (v := .tuple #[v1, v2, v3]) (by
  have e1 : a.tmps.getD t undef = v1 := hA.ev (x := .tmp t) h1
  have e2 : a.tmps.getD u undef = v2 := hA.ev (x := .tmp u) h2
  have e3 : a.tmps.getD q undef = v3 := hA.ev (x := .tmp q) h3
  rw [← e1, ← e2, ← e3]
  simp [results, hr]) hA.defers ⟨_, rfl, h⟩
theorem lvc1 {fn : Func} {R : Value → World → Prop} {t g ty : Nat} {cs : List Value} {dd : TypeDesc} (hr : fn.results = #[.cell t ty]) (hu : P.underlying ty = some dd) (hi : (P.info? ty).map (·.size) = some cs.length) (hS : SH r L w) (qi : Nat) (hq : L[qi]? = some (blk g T cs))
  (hA : FR n [] a F) (h1 : lk F t = some (.pointer (some ⟨g, 0, none⟩))) (hf : flat dd = false) (h : R (.agg cs.toArray) w) : bodyPost P fn (fun e w' => ∃ v, e = .returned v ∧ R v w') .ret a w :=
 bodyPost_ret (v := .agg cs.toArray) (by
  have e1 : a.tmps.getD t undef = .pointer (some ⟨g, 0, none⟩) := hA.ev (x := .tmp t) h1
  obtain ⟨i, hi1, hi2⟩ := Option.map_eq_some_iff.1 hi
  have hagg : (isAgg ty).run P w = .ok true w := by rw [run_isAgg_flat hu, hf]; rfl
  have hl := run_loadCells_list (P := P) w ⟨g, 0, none⟩ cs (fun j u hj => by rw [add_mk, Nat.zero_add]; exact hS.cell qi hq j u hj)
  have hld : (loadVar ty ⟨g, 0, none⟩).run P w = .ok (.agg cs.toArray) w := by simp [loadVar, hagg, sizeOf, typeInfo, hi1, hi2, hl]
  have e1' : a.tmps[t]?.getD undef = .pointer (some ⟨g, 0, none⟩) := by rw [← Array.getD_eq_getD_getElem?]; exact e1
  simp [results, hr, e1', asAddr, hld]) hA.defers ⟨_, rfl, h⟩
end
def kI (k : IntKind) : Kd Int where
 sz := 1
 V x cs := cs = [.int k x]
 len h := by rw [h]; rfl
 one h := by rw [h]; simp [Value.oneCell']
def kB : Kd Bool where
 sz := 1
 V x cs := cs = [.bool x]
 len h := by rw [h]; rfl
 one h := by rw [h]; simp [Value.oneCell']
def kS : Kd (List UInt8) where
 sz := 1
 V x cs := cs = [str x]
 len h := by rw [h]; rfl
 one h := by rw [h]; simp [Value.oneCell', str]
def kF : Kd Nat where
 sz := 1
 V x cs := cs = [.float .f64 x]
 len h := by rw [h]; rfl
 one h := by rw [h]; simp [Value.oneCell']
def kM {α : Type} (Z : Nat → Prop) (wz : World) (d : Kd α) : Kd (List α) where
 sz := 1
 V x cs := ∃ A n c, cs = [.slice A n c] ∧ Imm Z wz d A n c x
 len h := by obtain ⟨A, n, c, h, _⟩ := h; rw [h]; rfl
 one h := by obtain ⟨A, n, c, h, _⟩ := h; rw [h]; simp [Value.oneCell']
theorem kM_sub {α : Type} {Z Z' : Nat → Prop} {wz wz' : World} {d : Kd α} (hs : Sub Z wz Z' wz') (x : List α) (cs : List Value) (h : (kM Z wz d).V x cs) : (kM Z' wz' d).V x cs := by
 obtain ⟨A, n, c, h, hI⟩ := h
 exact ⟨A, n, c, h, hI.sub hs⟩
open Classical in
noncomputable def nilsplit {α : Type} (e : Bool) (p q : Option α) : Option α := if e = true then (if p = q then p else none) else q
theorem nil_l {α β : Type} {xs : List β} {p q : Option α} {y : α} (hx : xs = []) (h : nilsplit xs.isEmpty p q = some y) : p = some y := by
 unfold nilsplit at h
 subst hx
 simp only [List.isEmpty_nil, if_true] at h
 split at h
 ·exact h
 ·cases h
theorem nil_r {α : Type} {e : Bool} {p q : Option α} {y : α} (h : nilsplit e p q = some y) : q = some y := by
 unfold nilsplit at h
 split at h
 ·split at h
  ·rename_i h2; rw [← h2]; exact h
  ·cases h
 ·exact h
theorem RdL.none_nil {α : Type} {L : List HP} {d : Kd α} {n c : Nat} {xs : List α} (h : RdL L d none n c xs) {w : World} {S : Nat → Prop} (hs : Sep L w S) : xs = [] := by
 cases xs with
 | nil => rfl
 | cons x xs => obtain ⟨ad, e, _⟩ := h.rd w S hs (by simp); cases e
theorem Imm.none_nil {α : Type} {Z : Nat → Prop} {wz : World} {d : Kd α} {n c : Nat} {xs : List α} (h : Imm Z wz d none n c xs) : xs = [] := by
 cases xs with
 | nil => rfl
 | cons x xs => obtain ⟨ad, e, _⟩ := h.rd (by simp); cases e
theorem Imm.kind {α : Type} {Z : Nat → Prop} {wz : World} {d d' : Kd α} {A : Option Addr} {n c : Nat} {xs : List α} (h : Imm Z wz d A n c xs) (hs : d.sz = d'.sz) (hd : ∀ x cs, d.V x cs → d'.V x cs) : Imm Z wz d' A n c xs := by
 refine ⟨h.ln, h.le, h.mx, fun hpos => ?_⟩
 obtain ⟨ad, e, hz, hr⟩ := h.rd hpos
 refine ⟨ad, e, hz, fun j x hx => ?_⟩
 obtain ⟨cs, hV, hc⟩ := hr j x hx
 exact ⟨cs, hd _ _ hV, by rw [← hs]; exact hc⟩
theorem RdL.kind {α : Type} {L : List HP} {d d' : Kd α} {A : Option Addr} {n c : Nat} {xs : List α} (h : RdL L d A n c xs) (hs : d.sz = d'.sz) (hd : ∀ x cs, d.V x cs → d'.V x cs) : RdL L d' A n c xs := by
 refine ⟨h.ln, h.le, h.mx, fun w S hS hpos => ?_⟩
 obtain ⟨ad, e, hr⟩ := h.rd w S hS hpos
 refine ⟨ad, e, fun j x hx => ?_⟩
 obtain ⟨cs, hV, hc⟩ := hr j x hx
 exact ⟨cs, hd _ _ hV, by rw [← hs]; exact hc⟩
def bef (M : List Nat) (i j : Nat) : Bool := (M.getD i 0).testBit j
def okM (ops : Array Oper) (M : List Nat) : Bool :=
 (List.range ops.size).all fun i => match ops[i]? with
  | none => false
  | some o => M.getD i 0 == o.after.toList.foldl (fun s e => bif Region.binds .any e then s ||| 2 ^ e.on ||| M.getD e.on 0 else s) 0 && o.after.toList.all fun e => !Region.binds .any e || Nat.blt e.on i
def wr (ops : Array Oper) (t : Nat) : Option Nat := (List.range ops.size).find? fun i => ((ops[i]?).bind fun o : Oper => o.dst) == some t
def uniq (ops : Array Oper) : Bool := (List.range ops.size).all fun i => match (ops[i]?).bind (fun o : Oper => o.dst) with
 | none => true
 | some t => wr ops t == some i
def src (ops : Array Oper) (M : List Nat) (F0 VL : List (Nat × Value)) (p t : Nat) : Option Value :=
 match wr ops t with
 | none => lk F0 t
 | some q => bif Nat.beq q p || bef M q p then lk F0 t else bif bef M p q then lk VL q else none
def srcF (ops : Array Oper) (F0 VL : List (Nat × Value)) (t : Nat) : Option Value :=
 match wr ops t with
 | none => lk F0 t
 | some q => lk VL q
def candP (ops : Array Oper) (M effs done : List Nat) : List Nat :=
 (List.range ops.size).filter fun p => !effs.contains p && effs.all fun e => (!bef M p e || done.contains e) && (!bef M e p || !done.contains e)
def candE (ops : Array Oper) (M effs done : List Nat) : List Nat :=
 effs.filter fun p => !done.contains p && effs.all fun e => (!bef M p e || done.contains e)
def AllP (f : Nat → Prop) : List Nat → Prop
 | [] => True
 | p :: ps => f p ∧ AllP f ps
theorem AllP.mem {f : Nat → Prop} : ∀ {l : List Nat}, AllP f l → ∀ {p : Nat}, p ∈ l → f p
 | _ :: _, h, _, .head _ => h.1
 | _ :: _, h, _, .tail _ hm => AllP.mem h.2 hm
def Runs (P : Program) (ops : Array Oper) (o : Oper) (a : Act) (w : World) (v : Value) : Prop :=
 if Region.wanted o (yielded ops a.tmps) = true then RunV P o a w v else v = undef
def PureOk (P : Program) (ops : Array Oper) (n : Nat) (D : List Deferred) (M : List Nat) (F0 VL : List (Nat × Value)) (w : World) (p : Nat) : Prop :=
 ∃ (o : Oper) (v : Value) (E : List (Nat × Value)), ops[p]? = some o ∧ lk VL p = some v ∧ E.map (fun q => src ops M F0 VL p q.1) = E.map (fun q => some q.2) ∧ ∀ a, FR n D a E → Runs P ops o a w v
def DrawOk (P : Program) (ops : Array Oper) (Q : Exit → Act → World → Prop) (n : Nat) (D : List Deferred) (M : List Nat) (F0 : List (Nat × Value)) (effs : List Nat) : Nat → List Nat → List (Nat × Value) → World → Prop
 | 0, done, VL, w => AllP (PureOk P ops n D M F0 VL w) (candP ops M effs done) ∧ (candE ops M effs done = [] ∧ effs.all (done.contains ·) = true) ∧
   ∃ Ff : List (Nat × Value), Ff.map (fun q => srcF ops F0 VL q.1) = Ff.map (fun q => some q.2) ∧ ∀ a, FR n D a Ff → Q .normal a w
 | m + 1, done, VL, w => AllP (PureOk P ops n D M F0 VL w) (candP ops M effs done) ∧ effs.all (done.contains ·) = false ∧
   AllP (fun e => ∃ (o : Oper) (E : List (Nat × Value)), ops[e]? = some o ∧ E.map (fun q => src ops M F0 VL e q.1) = E.map (fun q => some q.2) ∧ ∀ a, FR n D a E →
    if Region.wanted o (yielded ops a.tmps) = true then o.wp P a w (fun a' w' => ∃ v NV, a' = a.put o.dst v ∧ NV.all (fun q => (lk ((e, v) :: VL) q.1).isNone) = true ∧ DrawOk P ops Q n D M F0 effs m (e :: done) (NV ++ (e, v) :: VL) w') Q
    else ∃ NV : List (Nat × Value), NV.all (fun q => (lk ((e, undef) :: VL) q.1).isNone) = true ∧ DrawOk P ops Q n D M F0 effs m (e :: done) (NV ++ (e, undef) :: VL) w) (candE ops M effs done)
section
variable {P : Program} {ops : Array Oper} {Q : Exit → Act → World → Prop} {n : Nat} {D : List Deferred} {M : List Nat} {F0 VL : List (Nat × Value)} {effs done : List Nat} {listed : Array Bool} {a : Act} {w : World}
def Lsd (listed : Array Bool) (i : Nat) : Prop := listed.getD i false = true
structure DInv (ops : Array Oper) (n : Nat) (D : List Deferred) (F0 VL : List (Nat × Value)) (effs done : List Nat) (listed : Array Bool) (a : Act) : Prop where
 lsize : listed.size = ops.size
 size : a.tmps.size = n
 defers : a.defers = D
 closed : ∀ (p : Nat) (o : Oper) (e : Edge), ops[p]? = some o → Lsd listed p → e ∈ o.after.toList → Region.binds .any e = true → Lsd listed e.on
 old : ∀ t v, lk F0 t = some v → (∀ p, ((ops[p]?).bind fun o : Oper => o.dst) = some t → ¬ Lsd listed p) → a.tmps[t]? = some v
 new : ∀ (p : Nat) (o : Oper) (t : Nat), ops[p]? = some o → o.dst = some t → Lsd listed p → ∃ v, lk VL p = some v ∧ a.tmps[t]? = some v
 keyed : ∀ p, Lsd listed p → ∃ v, lk VL p = some v
 eff : ∀ e, e ∈ effs → (Lsd listed e ↔ e ∈ done)
 tmps : ∀ (p : Nat) (o : Oper) (t : Nat), ops[p]? = some o → o.dst = some t → t < n
theorem bef_fold {i j : Nat} : ∀ (es : List Edge) (s : Nat), (es.foldl (fun s e => bif Region.binds .any e then s ||| 2 ^ e.on ||| M.getD e.on 0 else s) s).testBit j = true →
  s.testBit j = true ∨ ∃ e ∈ es, Region.binds .any e = true ∧ (e.on = j ∨ bef M e.on j = true)
 | [], s, h => .inl h
 | e :: es, s, h => by
  rcases bef_fold (i := i) es _ h with h | ⟨e', he', hb, hj⟩
  ·cases hb : Region.binds .any e
   ·simp only [hb, cond_false] at h; exact .inl h
   ·simp only [hb, cond_true, Nat.testBit_or, Bool.or_eq_true] at h
    rcases h with (h | h) | h
    ·exact .inl h
    ·refine .inr ⟨e, by simp, hb, .inl ?_⟩
     rw [Nat.testBit_two_pow] at h
     simpa using h
    ·exact .inr ⟨e, by simp, hb, .inr h⟩
  ·exact .inr ⟨e', by simp [he'], hb, hj⟩
theorem okM_at (h : okM ops M = true) {i : Nat} {o : Oper} (ho : ops[i]? = some o) :
  (∀ j, bef M i j = true → ∃ e ∈ o.after.toList, Region.binds .any e = true ∧ (e.on = j ∨ bef M e.on j = true)) ∧ ∀ e ∈ o.after.toList, Region.binds .any e = true → e.on < i := by
 have hi : i < ops.size := (Array.getElem?_eq_some_iff.1 ho).1
 have h' := (List.all_eq_true.1 h) i (by simpa using hi)
 rw [ho] at h'
 simp only [Bool.and_eq_true, beq_iff_eq] at h'
 obtain ⟨h1, h2⟩ := h'
 refine ⟨fun j hj => ?_, fun e he hb => ?_⟩
 ·unfold bef at hj
  rw [h1] at hj
  rcases bef_fold (i := i) _ _ hj with h | h
  ·simp at h
  ·exact h
 ·have := (List.all_eq_true.1 h2) e he
  rw [hb] at this
  simp at this
  exact this
theorem DInv.anc (hM : okM ops M = true) (hI : DInv ops n D F0 VL effs done listed a) : ∀ (i j : Nat), Lsd listed i → i < ops.size → bef M i j = true → Lsd listed j := by
 intro i
 induction i using Nat.strongRecOn with
 | _ i ih =>
  intro j hl hi hj
  have ho : ops[i]? = some ops[i] := Array.getElem?_eq_getElem hi
  obtain ⟨h1, h2⟩ := okM_at hM ho
  obtain ⟨e, he, hb, hj'⟩ := h1 j hj
  have hle := hI.closed i _ e ho hl he hb
  rcases hj' with rfl | hj'
  ·exact hle
  ·exact ih e.on (h2 e he hb) j hle (by have := h2 e he hb; omega) hj'
theorem ready_spec {i : Nat} (hi : i ∈ Region.ready .any ops listed) : i < ops.size ∧ listed.getD i true = false ∧ ∀ o, ops[i]? = some o → ∀ e ∈ o.after.toList, Region.binds .any e = true → Lsd listed e.on := by
 unfold Region.ready at hi
 rw [List.mem_filter, List.mem_range, Bool.and_eq_true] at hi
 obtain ⟨h1, h2, h3⟩ := hi
 refine ⟨h1, by simpa using h2, fun o ho e he hb => ?_⟩
 rw [ho] at h3
 simp only [Option.map_some, Option.getD_some] at h3
 rw [Array.all_eq_true_iff_forall_mem] at h3
 have := h3 e (Array.mem_toList_iff.1 he)
 rw [hb] at this
 simpa [Lsd] using this
theorem DInv.ready_anc (hM : okM ops M = true) (hI : DInv ops n D F0 VL effs done listed a) {i j : Nat} (hi : i ∈ Region.ready .any ops listed) (hj : bef M i j = true) : Lsd listed j := by
 obtain ⟨h1, h2, h3⟩ := ready_spec hi
 have ho : ops[i]? = some ops[i] := Array.getElem?_eq_getElem h1
 obtain ⟨q1, q2⟩ := okM_at hM ho
 obtain ⟨e, he, hb, hj'⟩ := q1 j hj
 have hle := h3 _ ho e he hb
 rcases hj' with rfl | hj'
 ·exact hle
 ·exact hI.anc hM e.on j hle (by have := q2 e he hb; omega) hj'
theorem not_Lsd {i : Nat} (h : listed.getD i true = false) : ¬ Lsd listed i := by
 intro hl
 unfold Lsd at hl
 rw [Array.getD_eq_getD_getElem?] at h hl
 cases hq : listed[i]? with
 | none => rw [hq] at hl; cases hl
 | some b => rw [hq] at h hl; cases b <;> simp at h hl
theorem wr_some {t q : Nat} (h : wr ops t = some q) : ((ops[q]?).bind fun o : Oper => o.dst) = some t ∧ q < ops.size := by
 unfold wr at h
 have h1 := List.find?_some h
 have h2 := List.mem_of_find?_eq_some h
 exact ⟨by simpa using h1, by simpa using h2⟩
theorem wr_none {t : Nat} (h : wr ops t = none) {p : Nat} : ((ops[p]?).bind fun o : Oper => o.dst) ≠ some t := by
 intro hp
 unfold wr at h
 rw [List.find?_eq_none] at h
 rcases Nat.lt_or_ge p ops.size with hlt | hge
 ·exact h p (by simpa using hlt) (by simpa using hp)
 ·rw [Array.getElem?_eq_none hge] at hp; cases hp
theorem wr_uniq (hu : uniq ops = true) {t p : Nat} (h : ((ops[p]?).bind fun o : Oper => o.dst) = some t) : wr ops t = some p := by
 have hp : p < ops.size := by
  rcases Nat.lt_or_ge p ops.size with hlt | hge
  ·exact hlt
  ·rw [Array.getElem?_eq_none hge] at h; cases h
 have := (List.all_eq_true.1 hu) p (by simpa using hp)
 rw [h] at this
 simpa using this
theorem DInv.src (hM : okM ops M = true) (hu : uniq ops = true) (hI : DInv ops n D F0 VL effs done listed a) {p : Nat} (hp : p ∈ Region.ready .any ops listed) {t : Nat} {v : Value} (h : src ops M F0 VL p t = some v) : a.tmps[t]? = some v := by
 obtain ⟨h1, h2, h3⟩ := ready_spec hp
 unfold E.src at h
 cases hw : wr ops t with
 | none =>
  rw [hw] at h
  exact hI.old t v h fun q hq => absurd hq (wr_none hw)
 | some q =>
  rw [hw] at h
  dsimp only at h
  obtain ⟨hq, hql⟩ := wr_some hw
  by_cases hc : (Nat.beq q p || bef M q p) = true
  ·rw [hc] at h
   refine hI.old t v h fun q' hq' hl => ?_
   have e1 := wr_uniq hu hq'
   rw [hw] at e1
   cases e1
   rcases Bool.or_eq_true _ _ ▸ hc with hc | hc
   ·have := Nat.eq_of_beq_eq_true hc
    subst this
    exact not_Lsd h2 hl
   ·exact not_Lsd h2 (hI.anc hM q p hl hql hc)
  ·rw [Bool.eq_false_iff.2 hc] at h
   simp only [cond_false] at h
   cases hb : bef M p q with
   | false => rw [hb] at h; cases h
   | true =>
    rw [hb] at h
    have hl := hI.ready_anc hM hp hb
    have ho : ops[q]? = some ops[q] := Array.getElem?_eq_getElem hql
    rw [ho] at hq
    obtain ⟨v', hv', hat⟩ := hI.new q _ t ho hq hl
    rw [show lk VL q = some v from h] at hv'
    cases hv'
    exact hat
theorem DInv.ev (hM : okM ops M = true) (hu : uniq ops = true) (hI : DInv ops n D F0 VL effs done listed a) {p : Nat} (hp : p ∈ Region.ready .any ops listed) {E : List (Nat × Value)} (hE : E.map (fun q => Go.Proofs.YteodeedejjcmgaaDoor.E.src ops M F0 VL p q.1) = E.map (fun q => some q.2)) : FR n D a E := by
 refine ⟨hI.size, hI.defers, fun t v hv => hI.src hM hu hp (M := M) ?_⟩
 induction E with
 | nil => cases hv
 | cons q r ih =>
  obtain ⟨k, u⟩ := q
  simp only [List.map_cons, List.cons.injEq] at hE
  simp only [lk] at hv
  by_cases e : Nat.beq k t = true
  ·rw [e] at hv
   have e' := Nat.eq_of_beq_eq_true e
   subst e'
   cases hv
   exact hE.1
  ·rw [Bool.eq_false_iff.2 e] at hv
   exact ih hE.2 hv
theorem Lsd_set {i j : Nat} (hi : i < listed.size) : Lsd (listed.setIfInBounds i true) j ↔ j = i ∨ Lsd listed j := by
 unfold Lsd
 rw [Array.getD_eq_getD_getElem?, Array.getD_eq_getD_getElem?, Array.getElem?_setIfInBounds]
 by_cases h : i = j
 ·subst h; simp [hi]
 ·rw [if_neg h]
  constructor
  ·exact .inr
  ·rintro (h' | h')
   ·exact absurd h'.symm h
   ·exact h'
theorem DInv.step (hM : okM ops M = true) (hu : uniq ops = true) (hI : DInv ops n D F0 VL effs done listed a) {i : Nat} {o : Oper} (hi : i ∈ Region.ready .any ops listed) (ho : ops[i]? = some o) {v : Value} {VL' : List (Nat × Value)} {done' : List Nat}
  (hv : lk VL' i = some v) (hVL : ∀ p, Lsd listed p → ∀ u, lk VL p = some u → lk VL' p = some u) (hdone : ∀ e ∈ effs, (e = i ∨ e ∈ done) ↔ e ∈ done') : DInv ops n D F0 VL' effs done' (listed.setIfInBounds i true) (a.put o.dst v) := by
 obtain ⟨h1, h2, h3⟩ := ready_spec hi
 have hil : i < listed.size := by rw [hI.lsize]; exact h1
 have hput : ∀ t', (a.put o.dst v).tmps[t']? = if o.dst = some t' ∧ t' < n then some v else a.tmps[t']? := by
  intro t'
  cases hd : o.dst with
  | none => simp [Act.put]
  | some t =>
   simp only [Act.put, Array.getElem?_setIfInBounds, hI.size]
   by_cases e : t = t'
   ·subst e
    have := hI.tmps i o t ho hd
    simp [this]
   ·rw [if_neg e, if_neg (fun h => e (Option.some.inj h.1))]
 refine ⟨by simp [hI.lsize], ?_, ?_, ?_, ?_, ?_, ?_, ?_, hI.tmps⟩
 ·cases o.dst <;> simp [Act.put, hI.size]
 ·cases o.dst <;> exact hI.defers
 ·intro p o' e ho' hl he hb
  rw [Lsd_set hil] at hl ⊢
  rcases hl with rfl | hl
  ·exact .inr (h3 o' ho' e he hb)
  ·exact .inr (hI.closed p o' e ho' hl he hb)
 ·intro t u hu' hno
  rw [hput]
  by_cases hd : o.dst = some t
  ·exact absurd ((Lsd_set hil).2 (.inl rfl)) (hno i (by rw [ho]; exact hd))
  ·rw [if_neg (fun h => hd h.1)]
   exact hI.old t u hu' fun p hp hl => hno p hp ((Lsd_set hil).2 (.inr hl))
 ·intro p o' t ho' hd hl
  rw [Lsd_set hil] at hl
  rw [hput]
  by_cases e : p = i
  ·subst e
   rw [ho] at ho'
   cases ho'
   exact ⟨v, hv, by rw [if_pos ⟨hd, hI.tmps _ _ _ ho hd⟩]⟩
  ·have hl' := hl.resolve_left e
   obtain ⟨u, hu', hat⟩ := hI.new p o' t ho' hd hl'
   refine ⟨u, hVL p hl' u hu', ?_⟩
   rw [if_neg, hat]
   rintro ⟨hd', _⟩
   have e1 := wr_uniq hu (p := p) (t := t) (by rw [ho']; exact hd)
   have e2 := wr_uniq hu (p := i) (t := t) (by rw [ho]; exact hd')
   rw [e1] at e2
   cases e2
   exact e rfl
 ·intro p hl
  rw [Lsd_set hil] at hl
  rcases hl with rfl | hl
  ·exact ⟨v, hv⟩
  ·obtain ⟨u, hu'⟩ := hI.keyed p hl
   exact ⟨u, hVL p hl u hu'⟩
 ·intro e he
  rw [Lsd_set hil, hI.eff e he]
  exact hdone e he
theorem ready_nil (hM : okM ops M = true) (hI : DInv ops n D F0 VL effs done listed a) (h : Region.ready .any ops listed = []) : ∀ i, i < ops.size → Lsd listed i := by
 intro i
 induction i using Nat.strongRecOn with
 | _ i ih =>
  intro hi
  apply Classical.byContradiction
  intro hn
  have hmem : i ∈ Region.ready .any ops listed := by
   unfold Region.ready
   rw [List.mem_filter, List.mem_range, Bool.and_eq_true]
   have ho : ops[i]? = some ops[i] := Array.getElem?_eq_getElem hi
   refine ⟨hi, ?_, ?_⟩
   ·have hil : i < listed.size := by rw [hI.lsize]; exact hi
    unfold Lsd at hn
    rw [Array.getD_eq_getD_getElem?, Array.getElem?_eq_getElem hil] at hn ⊢
    simpa using hn
   ·rw [ho]
    simp only [Option.map_some, Option.getD_some]
    rw [Array.all_eq_true_iff_forall_mem]
    intro e he
    cases hb : Region.binds .any e with
    | false => rfl
    | true =>
     have := ih e.on ((okM_at hM ho).2 e (Array.mem_toList_iff.2 he) hb) (by have := (okM_at hM ho).2 e (Array.mem_toList_iff.2 he) hb; omega)
     simpa [Lsd] using this
  rw [h] at hmem
  cases hmem
def left_ (listed : Array Bool) : Nat := (listed.toList.filter (!·)).length
theorem left_set : ∀ (l : List Bool) (i : Nat), l[i]? = some false → ((l.set i true).filter (!·)).length + 1 = (l.filter (!·)).length
 | [], i, h => by simp at h
 | b :: l, 0, h => by simp at h; subst h; simp
 | b :: l, i + 1, h => by
  have ih := left_set l i (by simpa using h)
  rw [List.set_cons_succ, List.filter_cons, List.filter_cons]
  cases b
  ·simp only [Bool.not_false, if_true, List.length_cons]; omega
  ·simp only [Bool.not_true, Bool.false_eq_true, if_false]; exact ih
theorem draw_any (hM : okM ops M = true) (hu : uniq ops = true) (hEs : effs.all (fun e => Nat.blt e ops.size) = true) : ∀ (fuel m : Nat) (done : List Nat) (VL : List (Nat × Value)) (listed : Array Bool) (a : Act) (w : World), left_ listed = fuel →
  DInv ops n D F0 VL effs done listed a → DrawOk P ops Q n D M F0 effs m done VL w → wpAny P .any ops Q fuel listed a w := by
 intro fuel
 induction fuel with
 | zero =>
  intro m done VL listed a w hf hI hD
  have hall : ∀ i, i < ops.size → Lsd listed i := by
   intro i hi
   have hil : i < listed.size := by rw [hI.lsize]; exact hi
   unfold left_ at hf
   have h0 := List.eq_nil_of_length_eq_zero hf
   rw [List.filter_eq_nil_iff] at h0
   have := h0 listed[i] (by simp)
   unfold Lsd
   rw [Array.getD_eq_getD_getElem?, Array.getElem?_eq_getElem hil]
   simpa using this
  have hr : Region.ready .any ops listed = [] := by
   rw [List.eq_nil_iff_forall_not_mem]
   intro i hi
   obtain ⟨h1, h2, _⟩ := ready_spec hi
   exact not_Lsd h2 (hall i h1)
  refine ⟨hr, ?_⟩
  cases m with
  | zero =>
   obtain ⟨_, _, Ff, hFf, hQ⟩ := hD
   refine hQ a ⟨hI.size, hI.defers, fun t v hv => ?_⟩
   have hs : srcF ops F0 VL t = some v := by
    clear hQ
    induction Ff with
    | nil => cases hv
    | cons q r ih =>
     obtain ⟨k, u⟩ := q
     simp only [List.map_cons, List.cons.injEq] at hFf
     simp only [lk] at hv
     by_cases e : Nat.beq k t = true
     ·rw [e] at hv
      have e' := Nat.eq_of_beq_eq_true e
      subst e'
      cases hv
      exact hFf.1
     ·rw [Bool.eq_false_iff.2 e] at hv
      exact ih hFf.2 hv
   unfold srcF at hs
   cases hw : wr ops t with
   | none => rw [hw] at hs; exact hI.old t v hs fun q hq => absurd hq (wr_none hw)
   | some q =>
    rw [hw] at hs
    obtain ⟨hq, hql⟩ := wr_some hw
    have ho : ops[q]? = some ops[q] := Array.getElem?_eq_getElem hql
    rw [ho] at hq
    obtain ⟨v', hv', hat⟩ := hI.new q _ t ho hq (hall q hql)
    rw [show lk VL q = some v from hs] at hv'
    cases hv'
    exact hat
  | succ m =>
   obtain ⟨_, hne, _⟩ := hD
   exfalso
   rw [← Bool.not_eq_true, List.all_eq_true] at hne
   refine hne fun e he => ?_
   have hel : e < ops.size := by
    have := Nat.le_of_ble_eq_true ((List.all_eq_true.1 hEs) e he)
    omega
   have := (hI.eff e he).1 (hall e hel)
   exact List.contains_iff_mem.2 this
 | succ fuel ih =>
  intro m done VL listed a w hf hI hD
  refine ⟨fun hr => ?_, fun i hi => ?_⟩
  ·exfalso
   have hall := ready_nil hM hI hr
   unfold left_ at hf
   have h0 : listed.toList.filter (!·) = [] := by
    rw [List.filter_eq_nil_iff]
    intro b hb
    obtain ⟨i, hi, rfl⟩ := List.mem_iff_getElem.1 hb
    have hi' : i < listed.size := by simpa using hi
    have := hall i (by rw [← hI.lsize]; exact hi')
    unfold Lsd at this
    rw [Array.getD_eq_getD_getElem?, Array.getElem?_eq_getElem hi'] at this
    simpa using this
   rw [h0] at hf
   cases hf
  ·obtain ⟨h1, h2, h3⟩ := ready_spec hi
   have hil : i < listed.size := by rw [hI.lsize]; exact h1
   have ho : ops[i]? = some ops[i] := Array.getElem?_eq_getElem h1
   have hleft : left_ (listed.setIfInBounds i true) = fuel := by
    have := left_set listed.toList i (by
     rw [Array.getElem?_toList, Array.getElem?_eq_getElem hil]
     rw [Array.getD_eq_getD_getElem?, Array.getElem?_eq_getElem hil] at h2
     simpa using h2)
    unfold left_ at hf ⊢
    rw [Array.toList_setIfInBounds]
    omega
   by_cases he : i ∈ effs
   · -- an effect
    have hnd : i ∉ done := fun h => not_Lsd h2 ((hI.eff i he).2 h)
    cases m with
    | zero =>
     obtain ⟨_, ⟨_, hall⟩, _⟩ := hD
     exact absurd (by simpa using (List.all_eq_true.1 hall) i he) hnd
    | succ m =>
     obtain ⟨_, _, hE⟩ := hD
     have hc : i ∈ candE ops M effs done := by
      unfold candE
      rw [List.mem_filter]
      refine ⟨he, ?_⟩
      simp only [Bool.and_eq_true, List.all_eq_true]
      refine ⟨by simpa using hnd, fun e he' => ?_⟩
      cases hb : bef M i e with
      | false => rfl
      | true =>
       have := (hI.eff e he').1 (hI.ready_anc hM hi hb)
       simpa using this
     obtain ⟨o, E, ho', hEE, hrun⟩ := hE.mem hc
     rw [ho] at ho'
     cases ho'
     have hEV := hI.ev hM hu hi hEE
     have hr := hrun a hEV
     unfold wpOp
     rw [ho]
     dsimp only
     have hlk : ∀ (NV : List (Nat × Value)) (v : Value), NV.all (fun q => (lk ((i, v) :: VL) q.1).isNone) = true → ∀ p u, lk ((i, v) :: VL) p = some u → lk (NV ++ (i, v) :: VL) p = some u := by
      intro NV v hNV p u hp
      induction NV with
      | nil => exact hp
      | cons q r ih' =>
       simp only [List.all_cons, Bool.and_eq_true] at hNV
       simp only [List.cons_append, lk]
       cases hb : Nat.beq q.1 p with
       | false => exact ih' hNV.2
       | true =>
        have e' := Nat.eq_of_beq_eq_true hb
        rw [e', hp] at hNV
        exact absurd hNV.1 (by simp)
     have hlk0 : ∀ (v : Value) p, Lsd listed p → ∀ u, lk VL p = some u → lk ((i, v) :: VL) p = some u := by
      intro v p hl u hp
      simp only [lk]
      cases hb : Nat.beq i p with
      | false => exact hp
      | true =>
       have e' := Nat.eq_of_beq_eq_true hb
       subst e'
       exact absurd hl (not_Lsd h2)
     have hi0 : ∀ v : Value, lk ((i, v) :: VL) i = some v := fun v => by simp [lk]
     split
     ·rename_i hw
      rw [if_pos hw] at hr
      refine .inl (Oper.wp_mono (fun a' w' hk => ?_) hr)
      obtain ⟨v, NV, rfl, hNV, hD'⟩ := hk
      exact ih m _ _ _ _ _ hleft (hI.step hM hu hi ho (hlk NV v hNV _ _ (hi0 v)) (fun p hl u hp => hlk NV v hNV _ _ (hlk0 v p hl u hp)) (fun e _ => by simp)) hD'
     ·rename_i hw
      rw [if_neg hw] at hr
      obtain ⟨NV, hNV, hD'⟩ := hr
      exact ih m _ _ _ _ _ hleft (hI.step hM hu hi ho (hlk NV undef hNV _ _ (hi0 undef)) (fun p hl u hp => hlk NV undef hNV _ _ (hlk0 undef p hl u hp)) (fun e _ => by simp)) hD'
   · -- a value alone
    have hP : AllP (PureOk P ops n D M F0 VL w) (candP ops M effs done) := by cases m <;> exact hD.1
    have hc : i ∈ candP ops M effs done := by
     unfold candP
     rw [List.mem_filter]
     refine ⟨by simpa using h1, ?_⟩
     simp only [Bool.and_eq_true, List.all_eq_true]
     refine ⟨by simpa using he, fun e he' => ⟨?_, ?_⟩⟩
     ·cases hb : bef M i e with
      | false => rfl
      | true => simpa using (hI.eff e he').1 (hI.ready_anc hM hi hb)
     ·cases hb : bef M e i with
      | false => rfl
      | true =>
       by_cases hd : e ∈ done
       ·have hl := (hI.eff e he').2 hd
        have hes : e < ops.size := by
         unfold Lsd at hl
         rcases Nat.lt_or_ge e listed.size with h | h
         ·rw [← hI.lsize]; exact h
         ·rw [Array.getD_eq_getD_getElem?, Array.getElem?_eq_none h] at hl; cases hl
        exact absurd (hI.anc hM e i hl hes hb) (not_Lsd h2)
       ·simpa using hd
    obtain ⟨o, v, E, ho', hv, hEE, hrun⟩ := hP.mem hc
    rw [ho] at ho'
    cases ho'
    have hEV := hI.ev hM hu hi hEE
    have hr := hrun a hEV
    have hI' := hI.step hM hu hi ho hv (fun p _ u h => h) (done' := done) (fun e he' => ⟨fun h => h.resolve_left (fun h => he (h ▸ he')), .inr⟩)
    unfold wpOp
    rw [ho]
    dsimp only
    unfold Runs at hr
    split
    ·rename_i hw
     rw [if_pos hw] at hr
     exact .inl (RunV.wp hr (ih m _ _ _ _ _ hleft hI' hD))
    ·rename_i hw
     rw [if_neg hw] at hr
     subst hr
     exact ih m _ _ _ _ _ hleft hI' hD
theorem draw_w0 {F : List (Nat × Value)} (M effs : List Nat) (hA : FR n D a F)
  (hM : okM ops M = true) (hu : uniq ops = true) (hEs : effs.all (fun e => Nat.blt e ops.size) = true) (ht : ((List.range ops.size).all fun p => match (ops[p]?).bind (fun o : Oper => o.dst) with | none => true | some t => Nat.blt t n) = true)
  (h : ∃ VL, DrawOk P ops Q n D M F effs effs.length [] VL w.drew) : wpAny P .any ops Q ops.size (Array.replicate ops.size false) a w.drew := by
 obtain ⟨VL, h⟩ := h
 refine draw_any (n := n) (D := D) (F0 := F) (effs := effs) hM hu hEs ops.size effs.length [] VL (Array.replicate ops.size false) a w.drew ?_ ?_ h
 ·unfold left_
  rw [Array.toList_replicate, List.filter_eq_self.2 (by intro b hb; rw [List.mem_replicate] at hb; rw [hb.2]; rfl)]
  simp
 ·have hno : ∀ p, ¬ Lsd (Array.replicate ops.size false) p := by
   intro p hp
   unfold Lsd at hp
   rw [Array.getD_eq_getD_getElem?, Array.getElem?_replicate] at hp
   split at hp <;> cases hp
  refine ⟨by simp, hA.size, hA.defers, fun p o e _ hl => absurd hl (hno p), fun t v hv _ => hA.at_ t v hv, fun p o t _ _ hl => absurd hl (hno p), fun p hl => absurd hl (hno p), fun e _ => ⟨fun hl => absurd hl (hno e), fun h => by cases h⟩, fun p o t ho hd => ?_⟩
  have hp : p < ops.size := (Array.getElem?_eq_some_iff.1 ho).1
  have := (List.all_eq_true.1 ht) p (by simpa using hp)
  rw [ho] at this
  simp only [Option.bind_some, hd] at this
  have := Nat.le_of_ble_eq_true this
  omega
theorem draw_w {F : List (Nat × Value)} {r : World} {L : List HP} (M effs : List Nat) (hA : FR n D a F) (hS : SH r L w)
  (hM : okM ops M = true) (hu : uniq ops = true) (hEs : effs.all (fun e => Nat.blt e ops.size) = true) (ht : ((List.range ops.size).all fun p => match (ops[p]?).bind (fun o : Oper => o.dst) with | none => true | some t => Nat.blt t n) = true)
  (h : ∀ w', SH r L w' → ∃ VL, DrawOk P ops Q n D M F effs effs.length [] VL w') : wpAny P .any ops Q ops.size (Array.replicate ops.size false) a w.drew :=
 draw_w0 M effs hA hM hu hEs ht (h _ hS.drew)
theorem wp_draw {id : Nat} {F : List (Nat × Value)} {r : World} {L : List HP} (M effs : List Nat) (hm : P.follows .mixedOrders = true) (hA : FR n D a F) (hS : SH r L w)
  (hM : okM ops M = true) (hu : uniq ops = true) (hEs : effs.all (fun e => Nat.blt e ops.size) = true) (ht : ((List.range ops.size).all fun p => match (ops[p]?).bind (fun o : Oper => o.dst) with | none => true | some t => Nat.blt t n) = true)
  (h : ∀ w', SH r L w' → ∃ VL, DrawOk P ops Q n D M F effs effs.length [] VL w') : (Code.region id ops true).wp P Q a w :=
 wp_region_any hm (draw_w M effs hA hS hM hu hEs ht h)
theorem pu {p : Nat} {o : Oper} {v : Value} (ho : ops[p]? = some o) (hv : lk VL p = some v) (E : List (Nat × Value)) (h : ∀ a, FR n D a E → RunV P o a w v) (hg : o.guard = none := by rfl) (hE : E.map (fun q => src ops M F0 VL p q.1) = E.map (fun q => some q.2) := by rfl) : PureOk P ops n D M F0 VL w p :=
 ⟨o, v, E, ho, hv, hE, fun a he => by unfold Runs; rw [if_pos (by simp [Region.wanted, hg])]; exact h a he⟩
theorem puOn {p j t : Nat} {b b' : Bool} {o : Oper} {v : Value} (ho : ops[p]? = some o) (hv : lk VL p = some v) (hg : o.guard = some (j, b)) (hj : (ops[j]?).bind (·.dst) = some t) (E : List (Nat × Value)) (hE0 : lk E t = some (.bool b')) (hb : b' = b) (h : ∀ a, FR n D a E → RunV P o a w v) (hE : E.map (fun q => src ops M F0 VL p q.1) = E.map (fun q => some q.2) := by rfl) : PureOk P ops n D M F0 VL w p :=
 ⟨o, v, E, ho, hv, hE, fun a he => by
  have hy := yielded_of (ops := ops) hj (he.at_ t _ hE0)
  unfold Runs
  rw [if_pos (by subst hb; simp [Region.wanted, hg, hy])]
  exact h a he⟩
theorem puOff {p j t : Nat} {b b' : Bool} {o : Oper} (ho : ops[p]? = some o) (hv : lk VL p = some undef) (hg : o.guard = some (j, b)) (hj : (ops[j]?).bind (·.dst) = some t) (E : List (Nat × Value)) (hE0 : lk E t = some (.bool b')) (hb : b' = !b) (hE : E.map (fun q => src ops M F0 VL p q.1) = E.map (fun q => some q.2) := by rfl) : PureOk P ops n D M F0 VL w p :=
 ⟨o, undef, E, ho, hv, hE, fun a he => by
  have hy := yielded_of (ops := ops) hj (he.at_ t _ hE0)
  unfold Runs
  rw [if_neg (by subst hb; cases b <;> simp [Region.wanted, hg, hy])]⟩
theorem dEnd {VL : List (Nat × Value)} (ps : List Nat) (hp : candP ops M effs done = ps) (h : AllP (PureOk P ops n D M F0 VL w) ps) (he : candE ops M effs done = [] ∧ effs.all (done.contains ·) = true) (Ff : List (Nat × Value)) (hF : Ff.map (fun q => srcF ops F0 VL q.1) = Ff.map (fun q => some q.2)) (hQ : ∀ a, FR n D a Ff → Q .normal a w) :
  DrawOk P ops Q n D M F0 effs 0 done VL w := ⟨hp ▸ h, he, Ff, hF, hQ⟩
def EffOk (P : Program) (ops : Array Oper) (Q : Exit → Act → World → Prop) (n : Nat) (D : List Deferred) (M : List Nat) (F0 : List (Nat × Value)) (effs : List Nat) (m : Nat) (done : List Nat) (VL : List (Nat × Value)) (w : World) (e : Nat) : Prop :=
 ∃ (o : Oper) (E : List (Nat × Value)), ops[e]? = some o ∧ E.map (fun q => src ops M F0 VL e q.1) = E.map (fun q => some q.2) ∧ ∀ a, FR n D a E →
  if Region.wanted o (yielded ops a.tmps) = true then o.wp P a w (fun a' w' => ∃ v NV, a' = a.put o.dst v ∧ NV.all (fun q => (lk ((e, v) :: VL) q.1).isNone) = true ∧ DrawOk P ops Q n D M F0 effs m (e :: done) (NV ++ (e, v) :: VL) w') Q
  else ∃ NV : List (Nat × Value), NV.all (fun q => (lk ((e, undef) :: VL) q.1).isNone) = true ∧ DrawOk P ops Q n D M F0 effs m (e :: done) (NV ++ (e, undef) :: VL) w
theorem dEff {m : Nat} {VL : List (Nat × Value)} (ps es : List Nat) (hp : candP ops M effs done = ps) (h : AllP (PureOk P ops n D M F0 VL w) ps) (he : candE ops M effs done = es) (hn : effs.all (done.contains ·) = false) (hE : AllP (EffOk P ops Q n D M F0 effs m done VL w) es) :
  DrawOk P ops Q n D M F0 effs (m + 1) done VL w := ⟨hp ▸ h, hn, he ▸ hE⟩
theorem ef {m e : Nat} {o : Oper} {VL : List (Nat × Value)} (ho : ops[e]? = some o) (E : List (Nat × Value))
  (h : ∀ a, FR n D a E → ∀ K : Act → World → Prop, (∀ v NV w', NV.all (fun q => (lk ((e, v) :: VL) q.1).isNone) = true → DrawOk P ops Q n D M F0 effs m (e :: done) (NV ++ (e, v) :: VL) w' → K (a.put o.dst v) w') → o.wp P a w K Q)
  (hg : o.guard = none := by rfl) (hE : E.map (fun q => src ops M F0 VL e q.1) = E.map (fun q => some q.2) := by rfl) : EffOk P ops Q n D M F0 effs m done VL w e :=
 ⟨o, E, ho, hE, fun a he => by rw [if_pos (by simp [Region.wanted, hg])]; exact h a he _ fun v NV w' h1 h2 => ⟨v, NV, rfl, h1, h2⟩⟩
theorem ef' {m e : Nat} {o : Oper} {VL : List (Nat × Value)} (ho : ops[e]? = some o) (E : List (Nat × Value))
  (h : ∀ a, FR n D a E → ∀ K : Act → World → Prop, (∀ v NV w', NV.all (fun q => (lk ((e, v) :: VL) q.1).isNone) = true → DrawOk P ops Q n D M F0 effs m (e :: done) (NV ++ (e, v) :: VL) w' → K (a.put o.dst v) w') → o.wp P a w K Q) (h_ : (o.guard, E.map (fun q => src ops M F0 VL e q.1)) = (none, E.map (fun q => some q.2))) : EffOk P ops Q n D M F0 effs m done VL w e := ef (ho := ho) (E := E) (h := h) (congrArg (·.1) h_) (congrArg (·.2) h_)
theorem efOn {m e j t : Nat} {b b' : Bool} {o : Oper} {VL : List (Nat × Value)} (ho : ops[e]? = some o) (hg : o.guard = some (j, b)) (hj : (ops[j]?).bind (·.dst) = some t) (E : List (Nat × Value)) (hE0 : lk E t = some (.bool b')) (hb : b' = b)
  (h : ∀ a, FR n D a E → ∀ K : Act → World → Prop, (∀ v NV w', NV.all (fun q => (lk ((e, v) :: VL) q.1).isNone) = true → DrawOk P ops Q n D M F0 effs m (e :: done) (NV ++ (e, v) :: VL) w' → K (a.put o.dst v) w') → o.wp P a w K Q)
  (hE : E.map (fun q => src ops M F0 VL e q.1) = E.map (fun q => some q.2) := by rfl) : EffOk P ops Q n D M F0 effs m done VL w e :=
 ⟨o, E, ho, hE, fun a he => by
  have hy := yielded_of (ops := ops) hj (he.at_ t _ hE0)
  rw [if_pos (by subst hb; simp [Region.wanted, hg, hy])]
  exact h a he _ fun v NV w' h1 h2 => ⟨v, NV, rfl, h1, h2⟩⟩
theorem efOff {m e j t : Nat} {b b' : Bool} {o : Oper} {VL : List (Nat × Value)} (ho : ops[e]? = some o) (hg : o.guard = some (j, b)) (hj : (ops[j]?).bind (·.dst) = some t) (E : List (Nat × Value)) (hE0 : lk E t = some (.bool b')) (NV : List (Nat × Value)) (hb : b' = !b) (hNV : NV.all (fun q => (lk ((e, undef) :: VL) q.1).isNone) = true) (h : DrawOk P ops Q n D M F0 effs m (e :: done) (NV ++ (e, undef) :: VL) w)
  (hE : E.map (fun q => src ops M F0 VL e q.1) = E.map (fun q => some q.2) := by rfl) : EffOk P ops Q n D M F0 effs m done VL w e :=
 ⟨o, E, ho, hE, fun a he => by
  have hy := yielded_of (ops := ops) hj (he.at_ t _ hE0)
  rw [if_neg (by subst hb; cases b <;> simp [Region.wanted, hg, hy])]
  exact ⟨NV, hNV, h⟩⟩
end
section
variable {P : Program} {ops : Array Oper} {Q : Exit → Act → World → Prop} {rest : List Oper} {o : Oper} {a : Act} {w w' : World} {K : Act → World → Prop}
 {n : Nat} {D : List Deferred} {F : List (Nat × Value)} {r : World} {L : List HP} {α : Type} {d : Kd α} {x y c : Operand} {t' e T xt yt : TypeId} {v : Value} {t : Nat} {k : IntKind} {i j : Int} {s u : List UInt8}
def feq (x y : Nat) : Bool := FloatKind.f64.format.order x y == some .eq
theorem r_neF {x y : Operand} {p q : Nat} (ho : o.op = .binOp .neq xt x y yt) (hx : a.eval x = .float .f64 p) (hy : a.eval y = .float .f64 q) : RunV P o a w (.bool (!feq p q)) := r_bin ho hx hy fun _ => rfl
def EXT (P : Program) (f : FuncId) (args : Array Value) (v : Value) : Prop := ∀ w, (callFunc f args).run P w = .ok (.value v) w
theorem r_ext {f : FuncId} {az : Array Operand} {ts : Array TypeId} {vals : Array Value} (hf : EXT P f vals v) (ho : o.op = .call { callee := .value (.func f), args := az, argTypes := ts }) (hargs : az.map a.eval = vals) : RunV P o a w v := by
 unfold RunV execOp; rw [ho]
 simp only [resolve, Act.eval, Deferred.ofValue, Sem.run_bind, Sem.run_pure, Result.andThen_ok, invoke, hargs]
 have := hf w
 simpa using this
theorem cutq {A : Option Addr} {m c1 : Nat} {l u : Int} {xs ys : List α} (h : Rd d w A xs ∧ xs.length = m ∧ m ≤ c1 ∧ c1 ≤ maxLen) (hc : cut_ xs l u = some ys) : 0 ≤ l ∧ l ≤ u ∧ u ≤ (c1 : Int) ∧ u ≤ (m : Int) ∧ 0 ≤ u ∧ l ≤ (m : Int) := by
 obtain ⟨h0, h1, h2, _⟩ := cut_some hc
 obtain ⟨_, h3, h4, _⟩ := h
 exact ⟨h0, h1, by omega, by omega, by omega, by omega⟩
theorem imm_lh {Z : Nat → Prop} {wz : World} {A : Option Addr} {m c1 : Nat} {l u : Int} {xs ys : List α} (h : Imm Z wz d A m c1 xs) (hc : cut_ xs l u = some ys) : Imm Z wz d (if c1 = l.toNat then A else A.map (·.add (l.toNat * d.sz))) (u.toNat - l.toNat) (c1 - l.toNat) ys := by
 obtain ⟨h0, h1, h2, rfl⟩ := cut_some hc
 exact h.cut (by omega) (by omega)
theorem imm_h {Z : Nat → Prop} {wz : World} {A : Option Addr} {m c1 : Nat} {u : Int} {xs ys : List α} (h : Imm Z wz d A m c1 xs) (hc : cut_ xs 0 u = some ys) : Imm Z wz d A u.toNat c1 ys := by
 have q := imm_lh h hc
 have e : (if c1 = (0 : Int).toNat then A else A.map (·.add ((0 : Int).toNat * d.sz))) = A := by cases A <;> simp [add_zero']
 rw [e] at q
 simpa using q
theorem imm_l {Z : Nat → Prop} {wz : World} {A : Option Addr} {m c1 : Nat} {l : Int} {xs ys : List α} (h : Imm Z wz d A m c1 xs) (hc : cut_ xs l (xs.length : Int) = some ys) : Imm Z wz d (if c1 = l.toNat then A else A.map (·.add (l.toNat * d.sz))) (m - l.toNat) (c1 - l.toNat) ys := by
 have q := imm_lh h hc
 rw [Int.toNat_natCast, h.ln] at q
 exact q
theorem yielded_undef {tmps : Array Value} {j t : Nat} (hj : (ops[j]?).bind (·.dst) = some t) (hv : tmps[t]? = some undef) : yielded ops tmps j = none := by
 unfold yielded
 cases ho : ops[j]? with
 | none => rfl
 | some o' =>
  rw [ho] at hj
  simp only [Option.bind_some] at hj
  simp [hj, hv, undef]
theorem x_offU {j t t' : Nat} {b : Bool} (hA : FR n D a F) (kk : ∀ a', FR n D a' ((t', undef) :: F) → wpList P ops Q rest a' w) (hg : o.guard = some (j, b) := by rfl) (hj : (ops[j]?).bind (·.dst) = some t := by rfl) (hv : lk F t = some undef := by rfl) (hd : o.dst = some t' := by rfl) (ht : Nat.blt t' n = true := by rfl) : wpList P ops Q (o :: rest) a w := by
 have hy := yielded_undef (ops := ops) hj (hA.at_ t _ hv)
 unfold wpList
 rw [if_neg (by simp [Region.wanted, hg, hy])]
 exact kk _ (by rw [hd]; exact hA.put t' _ (by have := Nat.le_of_ble_eq_true ht; omega))
theorem x_offU' {j t t' : Nat} {b : Bool} (hA : FR n D a F) (kk : ∀ a', FR n D a' ((t', undef) :: F) → wpList P ops Q rest a' w) (h_ : (o.guard, (ops[j]?).bind (·.dst), lk F t, o.dst, Nat.blt t' n) = (some (j, b), some t, some undef, some t', true)) : wpList P ops Q (o :: rest) a w := x_offU (hA := hA) (kk := kk) (congrArg (·.1) h_) (congrArg (·.2.1) h_) (congrArg (·.2.2.1) h_) (congrArg (·.2.2.2.1) h_) (congrArg (·.2.2.2.2) h_)
theorem puOffU {M : List Nat} {F0 VL : List (Nat × Value)} {p j t : Nat} {b : Bool} {o : Oper} (ho : ops[p]? = some o) (hv : lk VL p = some undef) (hg : o.guard = some (j, b)) (hj : (ops[j]?).bind (·.dst) = some t) (E : List (Nat × Value)) (hE0 : lk E t = some undef) (hE : E.map (fun q => src ops M F0 VL p q.1) = E.map (fun q => some q.2) := by rfl) : PureOk P ops n D M F0 VL w p :=
 ⟨o, undef, E, ho, hv, hE, fun a he => by
  have hy := yielded_undef (ops := ops) hj (he.at_ t _ hE0)
  unfold Runs
  rw [if_neg (by simp [Region.wanted, hg, hy])]⟩
theorem efOffU {M : List Nat} {F0 : List (Nat × Value)} {effs done : List Nat} {m e j t : Nat} {b : Bool} {o : Oper} {VL : List (Nat × Value)} (ho : ops[e]? = some o) (hg : o.guard = some (j, b)) (hj : (ops[j]?).bind (·.dst) = some t) (E : List (Nat × Value)) (hE0 : lk E t = some undef) (NV : List (Nat × Value)) (hNV : NV.all (fun q => (lk ((e, undef) :: VL) q.1).isNone) = true) (h : DrawOk P ops Q n D M F0 effs m (e :: done) (NV ++ (e, undef) :: VL) w)
  (hE : E.map (fun q => src ops M F0 VL e q.1) = E.map (fun q => some q.2) := by rfl) : EffOk P ops Q n D M F0 effs m done VL w e :=
 ⟨o, E, ho, hE, fun a he => by
  have hy := yielded_undef (ops := ops) hj (he.at_ t _ hE0)
  rw [if_neg (by simp [Region.wanted, hg, hy])]
  exact ⟨NV, hNV, h⟩⟩
theorem y_move (hA : FR n D a F) (ho : o.op = .move x := by rfl) (hx : ev F x = some v := by rfl) : RunV P o a w v := r_move ho (hA.ev hx)
theorem y_assign (hA : FR n D a F) (ho : o.op = .assign x := by rfl) (hx : ev F x = some v := by rfl) : RunV P o a w v := r_assign ho (hA.ev hx)
theorem y_pickt {cx x y : Operand} {b : Bool} (hb : b = true) (hA : FR n D a F) (ho : o.op = .pick cx x y := by rfl) (hc : ev F cx = some (.bool b) := by rfl) (hx : ev F x = some v := by rfl) : RunV P o a w v := r_pick_t ho (by rw [hA.ev hc, hb]) (hA.ev hx)
theorem y_pickf {cx x y : Operand} {b : Bool} (hb : b = false) (hA : FR n D a F) (ho : o.op = .pick cx x y := by rfl) (hc : ev F cx = some (.bool b) := by rfl) (hx : ev F y = some v := by rfl) : RunV P o a w v := r_pick_f ho (by rw [hA.ev hc, hb]) (hA.ev hx)
theorem y_fab {s i off g o' : Nat} (hf : FA P s i off) (hA : FR n D a F) (ho : o.op = .fieldAddr s x i := by rfl) (hx : ev F x = some (.pointer (some ⟨g, o', none⟩)) := by rfl) : RunV P o a w (.pointer (some ⟨g, o' + off, none⟩)) := by rw [← add_mk]; exact r_fieldAddr hf ho (hA.ev hx)
theorem y_fae {s i off m : Nat} {A : Option Addr} (hf : FA P s i off) (hA : FR n D a F) (ho : o.op = .fieldAddr s x i := by rfl) (hx : ev F x = some (.pointer (some (ea A m))) := by rfl) : RunV P o a w (.pointer (some (ea A (m + off)))) := by rw [← ea_add]; exact r_fieldAddr hf ho (hA.ev hx)
theorem y_len {A : Option Addr} {m c : Nat} {xs : List α} (hu : P.underlying t' = some (.slice e)) (hn : xs.length = m) (hA : FR n D a F) (ho : o.op = .call { callee := .builtin .len, args := #[x], argTypes := #[t'] } := by rfl) (hx : ev F x = some (.slice A m c) := by rfl) : RunV P o a w (.int .i64 (xs.length : Int)) := by rw [hn]; exact r_len hu ho (hA.ev hx)
theorem y_ia {A : Option Addr} {m c sz : Nat} {xs : List α} {z : α} (hu : P.underlying t' = some (.slice e)) (hi : (P.info? e).map (·.size) = some sz) (hr : Rd d w A xs ∧ xs.length = m ∧ m ≤ c ∧ c ≤ maxLen) (hz : at_ xs i = some z) (hA : FR n D a F)
  (ho : o.op = .indexAddr t' x y := by rfl) (hx : ev F x = some (.slice A m c) := by rfl) (hy : ev F y = some (.int k i) := by rfl) : RunV P o a w (.pointer (some (ea A (i.toNat * sz)))) :=
 have h := at_some hz
 r_indexAddr hu hi ho (hA.ev hx) (hA.ev hy) (hr.1.isSome_ h.1 h.2.1) h.1 (by have := hr.2.1; omega)
theorem y_ld {dd : TypeDesc} {ad : Addr} (hu : P.underlying t' = some dd) (hc : w.cell? ad = some v) (hA : FR n D a F) (hf : flat dd = true := by rfl) (ho : o.op = .load t' x := by rfl) (hx : ev F x = some (.pointer (some ad)) := by rfl) : RunV P o a w v := r_load hu hf ho (hA.ev hx) hc
theorem y_lda {dd : TypeDesc} {ad : Addr} {cs : List Value} (hu : P.underlying t' = some dd) (hi : (P.info? t').map (·.size) = some cs.length) (hc : ∀ j u, cs[j]? = some u → w.cell? (ad.add j) = some u) (hA : FR n D a F) (hf : flat dd = false := by rfl) (ho : o.op = .load t' x := by rfl) (hx : ev F x = some (.pointer (some ad)) := by rfl) : RunV P o a w (.agg cs.toArray) := r_loadAgg hu hf hi ho (hA.ev hx) hc
theorem z_call {f : FuncId} {az : Array Operand} {ts : Array TypeId} {vals : Array Value} {R : Value → World → Prop} (hf : EN P f) (hA : FR n D a F) (hC : Ret P f vals w R) (kk : ∀ v w', R v w' → K (a.put o.dst v) w') (ho : o.op = .call { callee := .value (.func f), args := az, argTypes := ts } := by rfl) (hargs : az.toList.map (ev F) = vals.toList.map some := by rfl) : o.wp P a w K Q := e_call hf ho (evs hA hargs) hC kk
theorem z_call' {f : FuncId} {az : Array Operand} {ts : Array TypeId} {vals : Array Value} {R : Value → World → Prop} (hf : EN P f) (hA : FR n D a F) (hC : Ret P f vals w R) (kk : ∀ v w', R v w' → K (a.put o.dst v) w') (h_ : (o.op, az.toList.map (ev F)) = (.call { callee := .value (.func f), args := az, argTypes := ts }, vals.toList.map some)) : o.wp P a w K Q := z_call (hf := hf) (hA := hA) (hC := hC) (kk := kk) (congrArg (·.1) h_) (congrArg (·.2) h_)
theorem z_stb (q : Nat) {g off : Nat} {cs vs : List Value} {L' : List HP} (hi : (P.info? t').map (·.size) = some vs.length) (hA : FR n D a F) (hS : SH r L w) (hL : pk q L = blk g T cs :: L') (kk : ∀ w', SH r (blk g T (splice cs off vs) :: L') w' → K (a.put o.dst undef) w')
  (ho : o.op = .store t' x y := by rfl) (hx : ev F x = some (.pointer (some ⟨g, off, none⟩)) := by rfl) (hy : ev F y = some v := by rfl) (hv : v.cells.toList = vs := by rfl) (h1 : vs.all (·.oneCell') = true := by rfl) (hl : Nat.ble (off + vs.length) cs.length = true := by rfl) : o.wp P a w K Q := e_store_blk q hS hL ho (hA.ev hx) (hA.ev hy) hv (fun v hv => List.all_eq_true.1 h1 v hv) (Nat.le_of_ble_eq_true hl) hi kk
theorem z_stb' (q : Nat) {g off : Nat} {cs vs : List Value} {L' : List HP} (hi : (P.info? t').map (·.size) = some vs.length) (hA : FR n D a F) (hS : SH r L w) (hL : pk q L = blk g T cs :: L') (kk : ∀ w', SH r (blk g T (splice cs off vs) :: L') w' → K (a.put o.dst undef) w') (h_ : (o.op, ev F x, ev F y, v.cells.toList, vs.all (·.oneCell'), Nat.ble (off + vs.length) cs.length) = (.store t' x y, some (.pointer (some ⟨g, off, none⟩)), some v, vs, true, true)) : o.wp P a w K Q := z_stb (q := q) (hi := hi) (hA := hA) (hS := hS) (hL := hL) (kk := kk) (congrArg (·.1) h_) (congrArg (·.2.1) h_) (congrArg (·.2.2.1) h_) (congrArg (·.2.2.2.1) h_) (congrArg (·.2.2.2.2.1) h_) (congrArg (·.2.2.2.2.2) h_)
theorem z_sto (q : Nat) {A : Option Addr} {n1 c1 off j : Nat} {xs : List α} {z z' : α} {vs : List Value} {L' : List HP} (hi : (P.info? t').map (·.size) = some vs.length) (hA : FR n D a F) (hS : SH r L w) (hL : pk q L = own d e A n1 c1 xs :: L') (hj : xs[j]? = some z) (hV : ∀ c, d.V z c → d.V z' (splice c off vs)) (kk : ∀ w', SH r (own d e A n1 c1 (xs.set j z') :: L') w' → K (a.put o.dst undef) w')
  (ho : o.op = .store t' x y := by rfl) (hx : ev F x = some (.pointer (some (ea A (j * d.sz + off)))) := by rfl) (hy : ev F y = some v := by rfl) (hv : v.cells.toList = vs := by rfl) (h1 : vs.all (·.oneCell') = true := by rfl) (hl : Nat.ble (off + vs.length) d.sz = true := by rfl) : o.wp P a w K Q := e_store_own q hS hL ho (hA.ev hx) (hA.ev hy) hv (fun v hv => List.all_eq_true.1 h1 v hv) (Nat.le_of_ble_eq_true hl) hi hj hV kk
theorem z_bsl {m : Nat} {parts : Array (Nat × Operand)} {ps : Array (Nat × Value)} {cells : List Value} {xs : List α}
  (hr : ∀ w : World, (Instr.buildSlice t' m ps).run P w = .ok (.slice (some ⟨w.heap.size, 0, none⟩) m m) (w.alloc (.cells cells.toArray e))) (hm : xs.length = m) (hL : Lay d xs cells) (hA : FR n D a F) (hS : SH r L w) (kk : ∀ g w', SH r (own d e (some ⟨g, 0, none⟩) m m xs :: L) w' → K (a.put o.dst (.slice (some ⟨g, 0, none⟩) m m)) w')
  (ho : o.op = .buildSlice t' m parts := by rfl) (hx : parts.toList.map (fun p => (p.1, ev F p.2)) = ps.toList.map (fun p => (p.1, some p.2)) := by rfl) (hmx : Nat.ble m 65536 = true := by rfl) : o.wp P a w K Q :=
 e_buildSlice hS ho (ps := ps) (mapev2 hA hx) hr hm (by have := Nat.le_of_ble_eq_true hmx; simp only [maxLen]; omega) hL kk
theorem z_bsl' {m : Nat} {parts : Array (Nat × Operand)} {ps : Array (Nat × Value)} {cells : List Value} {xs : List α}
  (hr : ∀ w : World, (Instr.buildSlice t' m ps).run P w = .ok (.slice (some ⟨w.heap.size, 0, none⟩) m m) (w.alloc (.cells cells.toArray e))) (hm : xs.length = m) (hL : Lay d xs cells) (hA : FR n D a F) (hS : SH r L w) (kk : ∀ g w', SH r (own d e (some ⟨g, 0, none⟩) m m xs :: L) w' → K (a.put o.dst (.slice (some ⟨g, 0, none⟩) m m)) w') (h_ : (o.op, parts.toList.map (fun p => (p.1, ev F p.2)), Nat.ble m 65536) = (.buildSlice t' m parts, ps.toList.map (fun p => (p.1, some p.2)), true)) : o.wp P a w K Q := z_bsl (hr := hr) (hm := hm) (hL := hL) (hA := hA) (hS := hS) (kk := kk) (congrArg (·.1) h_) (congrArg (·.2.1) h_) (congrArg (·.2.2) h_)
theorem z_app (q : Nat) {z : Value} {bytes n1 c1 n2 c2 : Nat} {A A2 : Option Addr} {xs ys : List α} {L' : List HP} (hi : (P.info? e).map (fun i => (i.zero, i.size, i.bytes)) = some (some z, d.sz, bytes)) (ht' : P.underlying t' = some (.slice e)) (hA : FR n D a F) (hS : SH r L w) (hr : Rd d w A2 ys) (hn2 : ys.length = n2)
  (hb : xs.length + ys.length ≤ 140737488355328 / bytes) (hL : pk q L = own d e A n1 c1 xs :: L') (kk : ∀ A' n' c' w', SH r (own d e A' n' c' (xs ++ ys) :: L') w' → K (a.put o.dst (.slice A' n' c')) w')
  (hz : z.cells.size = d.sz := by rfl) (hsz : Nat.blt 0 d.sz = true := by rfl) (hbp : Nat.blt 0 bytes = true := by rfl) (ho : o.op = .call { callee := .builtin .append, args := #[x, y], argTypes := #[t', t'] } := by rfl) (hx : ev F x = some (.slice A n1 c1) := by rfl) (hy : ev F y = some (.slice A2 n2 c2) := by rfl) : o.wp P a w K Q :=
 have hbp' := Nat.le_of_ble_eq_true hbp
 have hb' : (xs.length + ys.length) * bytes ≤ 140737488355328 := Nat.le_trans (Nat.mul_le_mul_right _ hb) (Nat.div_mul_le_self _ _)
 e_append q hS hL ht' hi hz (by have := Nat.le_of_ble_eq_true hsz; omega) ho (hA.ev hx) (hA.ev hy) hr hn2 (by
  have h1 : (xs.length + ys.length) * 1 ≤ (xs.length + ys.length) * bytes := Nat.mul_le_mul_left _ (by omega)
  simp only [maxLen]; omega) hb' kk
theorem z_app' (q : Nat) {z : Value} {bytes n1 c1 n2 c2 : Nat} {A A2 : Option Addr} {xs ys : List α} {L' : List HP} (hi : (P.info? e).map (fun i => (i.zero, i.size, i.bytes)) = some (some z, d.sz, bytes)) (ht' : P.underlying t' = some (.slice e)) (hA : FR n D a F) (hS : SH r L w) (hr : Rd d w A2 ys) (hn2 : ys.length = n2)
  (hb : xs.length + ys.length ≤ 140737488355328 / bytes) (hL : pk q L = own d e A n1 c1 xs :: L') (kk : ∀ A' n' c' w', SH r (own d e A' n' c' (xs ++ ys) :: L') w' → K (a.put o.dst (.slice A' n' c')) w') (h_ : (z.cells.size, Nat.blt 0 d.sz, Nat.blt 0 bytes, o.op, ev F x, ev F y) = (d.sz, true, true, .call { callee := .builtin .append, args := #[x, y], argTypes := #[t', t'] }, some (.slice A n1 c1), some (.slice A2 n2 c2))) : o.wp P a w K Q := z_app (q := q) (hi := hi) (ht' := ht') (hA := hA) (hS := hS) (hr := hr) (hn2 := hn2) (hb := hb) (hL := hL) (kk := kk) (congrArg (·.1) h_) (congrArg (·.2.1) h_) (congrArg (·.2.2.1) h_) (congrArg (·.2.2.2.1) h_) (congrArg (·.2.2.2.2.1) h_) (congrArg (·.2.2.2.2.2) h_)
end
end Go.Proofs.YteodeedejjcmgaaDoor.E
