/- The engine's parts of memory: a block whose cells are known, a row of the call's own, what stays as it is; what a slice reads as. -/
import Derived.Test.YtgjhiojkkjaloaaEa
import Derived.Maps.AppendAt
import Derived.Deep.AppendLies
namespace Go.Proofs.Ytgjhiojkkjaloaa.E
open Go Go.RowKit
set_option linter.unusedVariables false
set_option linter.unusedSimpArgs false

structure Kd (α : Type) where
  sz : Nat
  V : α → List Value → Prop
  len : ∀ {x cs}, V x cs → cs.length = sz
  one : ∀ {x cs}, V x cs → ∀ v ∈ cs, v.oneCell' = true

def Lay {α : Type} (d : Kd α) : List α → List Value → Prop
  | [], cs => cs = []
  | x :: xs, cs => ∃ c1 c2, cs = c1 ++ c2 ∧ d.V x c1 ∧ Lay d xs c2

def RdA {α : Type} (d : Kd α) (w : World) (ad : Addr) (xs : List α) : Prop :=
  ∀ j x, xs[j]? = some x → ∃ cs, d.V x cs ∧ ∀ q u, cs[q]? = some u → w.cell? (ad.add (j * d.sz + q)) = some u

def Rd {α : Type} (d : Kd α) (w : World) (A : Option Addr) (xs : List α) : Prop := 0 < xs.length → ∃ ad, A = some ad ∧ RdA d w ad xs

theorem add_block (a : Addr) (n : Nat) : (a.add n).block = a.block := by unfold Addr.add; split <;> rfl
theorem add_add' (a : Addr) (i j : Nat) : (a.add i).add j = a.add (i + j) := by
  unfold Addr.add
  by_cases hi : i = 0 <;> by_cases hj : j = 0 <;> simp [hi, hj, Nat.add_assoc]
theorem add_zero' (a : Addr) : a.add 0 = a := by simp [Addr.add]
theorem add_mk (g i j : Nat) : (⟨g, i, none⟩ : Addr).add j = ⟨g, i + j, none⟩ := by unfold Addr.add; split <;> simp_all

section
variable {α : Type} {d : Kd α}
theorem Lay.length : ∀ {xs : List α} {cs : List Value}, Lay d xs cs → cs.length = xs.length * d.sz
  | [], _, h => by cases h; simp
  | x :: xs, _, ⟨c1, c2, e, hV, hL⟩ => by rw [e, List.length_append, d.len hV, Lay.length hL, List.length_cons, Nat.add_mul]; omega

theorem Lay.one : ∀ {xs : List α} {cs : List Value}, Lay d xs cs → ∀ v ∈ cs, v.oneCell' = true
  | [], _, h => by cases h; simp
  | x :: xs, _, ⟨c1, c2, e, hV, hL⟩ => by
    subst e
    intro v hv
    rcases List.mem_append.1 hv with h | h
    · exact d.one hV v h
    · exact Lay.one hL v h

theorem Lay.append : ∀ {xs ys : List α} {c1 c2 : List Value}, Lay d xs c1 → Lay d ys c2 → Lay d (xs ++ ys) (c1 ++ c2)
  | [], _, _, _, h, h2 => by cases h; exact h2
  | x :: xs, ys, _, c2, ⟨q1, q2, e, hV, hL⟩, h2 => ⟨q1, q2 ++ c2, by rw [e, List.append_assoc], hV, Lay.append hL h2⟩

theorem Lay.get : ∀ {xs : List α} {cs : List Value}, Lay d xs cs → ∀ {j : Nat} {x : α}, xs[j]? = some x → ∃ c, d.V x c ∧ ∀ q u, c[q]? = some u → cs[j * d.sz + q]? = some u
  | [], _, _, j, x, h => by simp at h
  | y :: xs, _, ⟨c1, c2, e, hV, hL⟩, j, x, h => by
    subst e
    cases j with
    | zero =>
      simp only [List.getElem?_cons_zero, Option.some.injEq] at h
      subst h
      refine ⟨c1, hV, fun q u hu => ?_⟩
      have hq : q < c1.length := (List.getElem?_eq_some_iff.1 hu).1
      rw [Nat.zero_mul, Nat.zero_add, List.getElem?_append_left hq]
      exact hu
    | succ j =>
      obtain ⟨c, hc, hg⟩ := Lay.get hL (j := j) (x := x) (by simpa using h)
      refine ⟨c, hc, fun q u hu => ?_⟩
      have := d.len hV
      rw [List.getElem?_append_right (by rw [this, Nat.add_mul]; omega), this]
      rw [show (j + 1) * d.sz + q - d.sz = j * d.sz + q by rw [Nat.add_mul]; omega]
      exact hg q u hu

theorem Lay.set : ∀ {xs : List α} {cs : List Value}, Lay d xs cs → ∀ {j : Nat} {x : α} {c : List Value}, j < xs.length → d.V x c →
    Lay d (xs.set j x) (cs.take (j * d.sz) ++ c ++ cs.drop (j * d.sz + d.sz))
  | [], _, _, j, x, c, h, _ => by simp at h
  | y :: xs, _, ⟨c1, c2, e, hV, hL⟩, j, x, c, h, hc => by
    subst e
    have hl := d.len hV
    cases j with
    | zero =>
      refine ⟨c, c2, ?_, hc, hL⟩
      simp only [Nat.zero_mul, List.take_zero, List.nil_append, Nat.zero_add]
      rw [← hl, List.drop_append_of_le_length (Nat.le_refl _), List.drop_length, List.nil_append]
    | succ j =>
      refine ⟨c1, _, ?_, hV, Lay.set hL (j := j) (by simpa using h) hc⟩
      have e1 : (j + 1) * d.sz = c1.length + j * d.sz := by rw [hl, Nat.add_mul]; omega
      rw [e1, List.take_append, List.take_of_length_le (by omega), Nat.add_sub_cancel_left, Nat.add_assoc, List.drop_append, List.drop_eq_nil_of_le (by omega), List.nil_append, Nat.add_sub_cancel_left]
      simp [List.append_assoc]

theorem Lay.take : ∀ {xs : List α} {cs : List Value}, Lay d xs cs → ∀ m, Lay d (xs.take m) (cs.take (m * d.sz))
  | [], _, h, m => by cases h; simp [Lay]
  | x :: xs, _, ⟨c1, c2, e, hV, hL⟩, 0 => by simp [Lay]
  | x :: xs, _, ⟨c1, c2, e, hV, hL⟩, m + 1 => by
    subst e
    have hl := d.len hV
    refine ⟨c1, _, ?_, hV, Lay.take hL m⟩
    rw [show (m + 1) * d.sz = c1.length + m * d.sz by rw [hl, Nat.add_mul]; omega, List.take_append, List.take_of_length_le (by omega), Nat.add_sub_cancel_left]

theorem Lay.drop : ∀ {xs : List α} {cs : List Value}, Lay d xs cs → ∀ m, Lay d (xs.drop m) (cs.drop (m * d.sz))
  | [], _, h, m => by cases h; simp [Lay]
  | x :: xs, cs, h, 0 => by simpa using h
  | x :: xs, _, ⟨c1, c2, e, hV, hL⟩, m + 1 => by
    subst e
    have hl := d.len hV
    show Lay d (xs.drop m) _
    rw [show (m + 1) * d.sz = c1.length + m * d.sz by rw [hl, Nat.add_mul]; omega, List.drop_append, List.drop_eq_nil_of_le (show c1.length ≤ c1.length + m * d.sz by omega), List.nil_append, Nat.add_sub_cancel_left]
    exact Lay.drop hL m

/-- from the elements' cells to the row's -/
theorem Lay.of_cells {w : World} {ad : Addr} : ∀ {xs : List α} {k : Nat}, (∀ j x, xs[j]? = some x → ∃ cs, d.V x cs ∧ ∀ q u, cs[q]? = some u → w.cell? (ad.add ((k + j) * d.sz + q)) = some u) →
    ∃ cs, Lay d xs cs ∧ ∀ q u, cs[q]? = some u → w.cell? (ad.add (k * d.sz + q)) = some u
  | [], k, _ => ⟨[], rfl, fun q u h => by simp at h⟩
  | x :: xs, k, h => by
    obtain ⟨c1, hV, hc⟩ := h 0 x rfl
    obtain ⟨c2, hL, hc2⟩ := Lay.of_cells (xs := xs) (k := k + 1) (fun j y hy => by
      obtain ⟨cs, hV, hc⟩ := h (j + 1) y (by simpa using hy)
      exact ⟨cs, hV, fun q u hu => by have := hc q u hu; rwa [show k + (j + 1) = k + 1 + j by omega] at this⟩)
    refine ⟨c1 ++ c2, ⟨c1, c2, rfl, hV, hL⟩, fun q u hu => ?_⟩
    have hl := d.len hV
    rcases Nat.lt_or_ge q c1.length with hq | hq
    · rw [List.getElem?_append_left hq] at hu
      exact hc q u hu
    · rw [List.getElem?_append_right hq] at hu
      have := hc2 _ u hu
      rwa [show (k + 1) * d.sz + (q - c1.length) = k * d.sz + q by rw [Nat.add_mul]; omega] at this

theorem RdA.cells {w : World} {ad : Addr} {xs : List α} (h : RdA d w ad xs) : ∃ cs, Lay d xs cs ∧ ∀ q u, cs[q]? = some u → w.cell? (ad.add q) = some u := by
  obtain ⟨cs, hL, hc⟩ := Lay.of_cells (k := 0) (fun j x hx => by simpa using h j x hx)
  exact ⟨cs, hL, fun q u hu => by simpa using hc q u hu⟩

theorem RdA.of_lay {w : World} {ad : Addr} {xs : List α} {cs : List Value} (h : Lay d xs cs) (hc : ∀ q u, cs[q]? = some u → w.cell? (ad.add q) = some u) : RdA d w ad xs := by
  intro j x hx
  obtain ⟨c, hV, hg⟩ := h.get hx
  exact ⟨c, hV, fun q u hu => hc _ u (hg q u hu)⟩

theorem RdA.drop {w : World} {ad : Addr} {xs : List α} (h : RdA d w ad xs) (m : Nat) : RdA d w (ad.add (m * d.sz)) (xs.drop m) := by
  intro j x hx
  obtain ⟨cs, hV, hc⟩ := h (m + j) x (by simpa using hx)
  exact ⟨cs, hV, fun q u hu => by rw [add_add', show m * d.sz + (j * d.sz + q) = (m + j) * d.sz + q by rw [Nat.add_mul]; omega]; exact hc q u hu⟩

theorem RdA.take {w : World} {ad : Addr} {xs : List α} (h : RdA d w ad xs) (m : Nat) : RdA d w ad (xs.take m) := by
  intro j x hx
  rw [List.getElem?_take] at hx
  split at hx
  · exact h j x hx
  · cases hx

/-- a slice cut anew reads as what it is cut to -/
theorem Rd.cut {w : World} {A : Option Addr} {xs : List α} (h : Rd d w A xs) {l u m : Nat} (hlu : l ≤ u) (hu : u ≤ xs.length) (hm : u ≤ m) :
    Rd d w (if m = l then A else A.map (·.add (l * d.sz))) ((xs.take u).drop l) := by
  intro hpos
  have hl : l < u := by simp at hpos; omega
  obtain ⟨ad, rfl, hr⟩ := h (by omega)
  rw [if_neg (by omega)]
  exact ⟨_, rfl, (hr.take u).drop l⟩
end

/-! #### parts -/
def blk (g : Nat) (T : TypeId) (cs : List Value) : HP where
  P w S := S g ∧ w.heap[g]? = some (.cells cs.toArray T (0, 0))
  fr h hk := ⟨h.1, (hk _ h.1).trans h.2⟩
  mono h hs := ⟨hs _ h.1, h.2⟩

def zone (Z : Nat → Prop) (wz : World) : HP where
  P w S := (∀ k, Z k → S k) ∧ ∀ k, Z k → w.heap[k]? = wz.heap[k]?
  fr h hk := ⟨h.1, fun k z => (hk k (h.1 k z)).trans (h.2 k z)⟩
  mono h hs := ⟨fun k z => hs k (h.1 k z), h.2⟩

theorem ownsRow_of_block {w w' : World} {base : Nat} {e : TypeId} {sz n : Nat} {v : Value} {xs : List Value} (h : w.ownsRow base e sz v n xs) (hk : ∀ g, v.ownBlock = some g → w'.heap[g]? = w.heap[g]?) : w'.ownsRow base e sz v n xs := by
  refine ⟨h.1, ?_⟩
  rcases h.2 with h2 | ⟨g, cap, cur, rfl, hg, hh, r⟩
  · exact .inl h2
  · exact .inr ⟨g, cap, cur, rfl, hg, (hk g rfl).trans hh, r⟩

def own0 {α : Type} (d : Kd α) (e : TypeId) (A : Option Addr) (c : Nat) (xs : List α) (w : World) (S : Nat → Prop) : Prop :=
  (∃ inner, Lay d xs inner ∧ w.ownsRow 0 e d.sz (.slice A xs.length c) xs.length inner) ∧ ∀ g, (Value.slice A xs.length c).ownBlock = some g → S g

def own {α : Type} (d : Kd α) (e : TypeId) (A : Option Addr) (n c : Nat) (xs : List α) : HP where
  P w S := xs.length = n ∧ own0 d e A c xs w S
  fr h hk := by
    obtain ⟨hn, ⟨inner, hL, ho⟩, hS⟩ := h
    exact ⟨hn, ⟨inner, hL, ownsRow_of_block ho fun g hg => hk g (hS g hg)⟩, hS⟩
  mono h hs := ⟨h.1, h.2.1, fun g hg => hs g (h.2.2 g hg)⟩

def star (Ls : List HP) : HP where
  P w S := Sep Ls w S
  fr h hk := h.fr hk
  mono h hs := h.mono hs

def ex {ι : Type} (f : ι → HP) : HP where
  P w S := ∃ i, (f i).P w S
  fr h hk := h.elim fun i h => ⟨i, (f i).fr h hk⟩
  mono h hs := h.elim fun i h => ⟨i, (f i).mono h hs⟩

def pure' (p : Prop) : HP where
  P _ _ := p
  fr h _ := h
  mono h _ := h

section
variable {r w w' : World} {L : List HP} {α : Type} {d : Kd α} {e : TypeId} {A : Option Addr} {n c : Nat} {xs : List α}

theorem ownsRow_reads {w : World} {base : Nat} {e : TypeId} {sz n c : Nat} {A : Option Addr} {inner : List Value} (h : w.ownsRow base e sz (.slice A n c) n inner) (hn : 0 < n) :
    ∃ g, A = some ⟨g, 0, none⟩ ∧ g < w.heap.size ∧ ∀ q u, inner[q]? = some u → w.cell? ⟨g, q, none⟩ = some u := by
  rcases h.2 with ⟨_, hn'⟩ | ⟨g, cap, cur, hv, hg, hh, hnc, hcm, hs, ht⟩
  · omega
  · injection hv with hA hn' hc
    subst hA
    refine ⟨g, rfl, (Array.getElem?_eq_some_iff.1 hh).1, fun q u hu => ?_⟩
    simp only [World.cell?, hh]
    rw [← ht, List.getElem?_take] at hu
    split at hu
    · simpa using hu
    · cases hu

theorem own_rd {S : Nat → Prop} (h : (own d e A n c xs).P w S) : Rd d w A xs := by
  intro hpos
  obtain ⟨hn, ⟨inner, hL, ho⟩, hS⟩ := h
  obtain ⟨g, rfl, hg, hc⟩ := ownsRow_reads ho hpos
  exact ⟨_, rfl, RdA.of_lay hL fun q u hu => by rw [add_mk, Nat.zero_add]; exact hc q u hu⟩

theorem own_le {S : Nat → Prop} (h : (own d e A n c xs).P w S) : xs.length ≤ c ∧ c ≤ maxLen := by
  obtain ⟨hn, ⟨inner, hL, ho⟩, hS⟩ := h
  rcases ho.2 with ⟨hv, hn⟩ | ⟨g, cap, cur, hv, hg, hh, hnc, hcm, hs, ht⟩
  · injection hv with h1 h2 h3
    omega
  · injection hv with h1 h2 h3
    omega

theorem own_nil {S : Nat → Prop} : (own d e none 0 0 ([] : List α)).P w S :=
  ⟨rfl, ⟨[], rfl, World.ownsRow_nil _ _ _ _⟩, fun g hg => by simp [Value.ownBlock] at hg⟩

/-- what the i-th part is -/
theorem SH.get (h : SH r L w) (i : Nat) {A : HP} (hi : L[i]? = some A) : ∃ S, A.P w S := by
  have key : ∀ (L : List HP) (i : Nat) (S : Nat → Prop), L[i]? = some A → Sep L w S → ∃ S, A.P w S := by
    intro L
    induction L with
    | nil => intro i S hi; simp at hi
    | cons B L ih =>
      intro i S hi hs
      obtain ⟨S1, S2, h1, h2, hd, hB, hL⟩ := hs
      cases i with
      | zero => cases hi; exact ⟨S1, hB⟩
      | succ i => exact ih i S2 (by simpa using hi) hL
  exact key L i _ hi h.sep

theorem Sep.sfx : ∀ (i : Nat) {L : List HP} {S : Nat → Prop}, Sep L w S → Sep (L.drop i) w S
  | 0, _, _, h => h
  | i + 1, [], _, h => h
  | i + 1, A :: L, _, ⟨S1, S2, h1, h2, hd, hA, hL⟩ => (Sep.sfx i hL).mono h2

theorem SH.sfx (h : SH r L w) (i : Nat) : Sep (L.drop i) w (fun k => k < w.heap.size) := Sep.sfx i h.sep

theorem SH.getL (i : Nat) {B : HP} (hi : L[i]? = some B) {S : Nat → Prop} (h : Sep L w S) : ∃ S, B.P w S := by
  have key : ∀ (L : List HP) (i : Nat) (S : Nat → Prop), L[i]? = some B → Sep L w S → ∃ S, B.P w S := by
    intro L
    induction L with
    | nil => intro i S hi; simp at hi
    | cons C L ih =>
      intro i S hi hs
      obtain ⟨S1, S2, h1, h2, hd, hB, hL⟩ := hs
      cases i with
      | zero => cases hi; exact ⟨S1, hB⟩
      | succ i => exact ih i S2 (by simpa using hi) hL
  exact key L i _ hi h

/-- what reads the same whatever else happens -/
structure RdL (L : List HP) (d : Kd α) (A : Option Addr) (n c : Nat) (xs : List α) : Prop where
  ln : xs.length = n
  le : xs.length ≤ c
  mx : c ≤ maxLen
  rd : ∀ w S, Sep L w S → Rd d w A xs

theorem RdL.own (i : Nat) (hi : L[i]? = some (own d e A n c xs)) (h : SH r L w) : RdL L d A n c xs := by
  obtain ⟨S, hS⟩ := h.get i hi
  refine ⟨hS.1, (own_le hS).1, (own_le hS).2, fun w' S' h' => ?_⟩
  obtain ⟨S2, h2⟩ := SH.getL i hi h'
  exact own_rd h2

theorem RdL.sfx (i : Nat) {L0 : List HP} (hL : L.drop i = L0) (h : RdL L0 d A n c xs) : RdL L d A n c xs :=
  ⟨h.ln, h.le, h.mx, fun w S hs => h.rd w S (hL ▸ Sep.sfx i hs)⟩

theorem RdL.nil : RdL L d none 0 0 ([] : List α) := ⟨rfl, Nat.le_refl _, Nat.zero_le _, fun _ _ _ h => absurd h (by simp)⟩

theorem RdL.cut (h : RdL L d A n c xs) {l u : Nat} (hlu : l ≤ u) (hu : u ≤ xs.length) : RdL L d (if c = l then A else A.map (·.add (l * d.sz))) (u - l) (c - l) ((xs.take u).drop l) :=
  ⟨by simp; omega, by have := h.le; simp; omega, by have := h.mx; omega, fun w S hs => (h.rd w S hs).cut hlu hu (Nat.le_trans hu h.le)⟩

/-- what is frozen -/
structure Imm (Z : Nat → Prop) (wz : World) (d : Kd α) (A : Option Addr) (n c : Nat) (xs : List α) : Prop where
  ln : xs.length = n
  le : xs.length ≤ c
  mx : c ≤ maxLen
  rd : 0 < xs.length → ∃ ad, A = some ad ∧ Z ad.block ∧ RdA d wz ad xs

theorem RdA.zone {Z : Nat → Prop} {wz : World} {ad : Addr} (h : RdA d wz ad xs) (hz : Z ad.block) {S : Nat → Prop} (hw : (zone Z wz).P w S) : RdA d w ad xs := by
  intro j x hx
  obtain ⟨cs, hV, hc⟩ := h j x hx
  refine ⟨cs, hV, fun q u hu => ?_⟩
  rw [← hc q u hu]
  exact World.cell?_of_block (by rw [add_block]; exact hw.2 _ hz)

theorem Imm.rdl {Z : Nat → Prop} {wz : World} (h : Imm Z wz d A n c xs) (i : Nat) (hi : L[i]? = some (zone Z wz)) : RdL L d A n c xs := by
  refine ⟨h.ln, h.le, h.mx, fun w' S' h' hpos => ?_⟩
  obtain ⟨S2, h2⟩ := SH.getL i hi h'
  obtain ⟨ad, rfl, hz, hr⟩ := h.rd hpos
  exact ⟨ad, rfl, hr.zone hz h2⟩

theorem Imm.nil {Z : Nat → Prop} {wz : World} : Imm Z wz d none 0 0 ([] : List α) := ⟨rfl, Nat.le_refl _, Nat.zero_le _, fun h => absurd h (by simp)⟩

theorem Imm.cut {Z : Nat → Prop} {wz : World} (h : Imm Z wz d A n c xs) {l u : Nat} (hlu : l ≤ u) (hu : u ≤ xs.length) : Imm Z wz d (if c = l then A else A.map (·.add (l * d.sz))) (u - l) (c - l) ((xs.take u).drop l) := by
  refine ⟨by simp; omega, by have := h.le; simp; omega, by have := h.mx; omega, fun hpos => ?_⟩
  have hl : l < u := by simp at hpos; omega
  obtain ⟨ad, rfl, hz, hr⟩ := h.rd (by omega)
  rw [if_neg (by have := h.le; omega)]
  exact ⟨_, rfl, by rw [add_block]; exact hz, (hr.take u).drop l⟩

/-- one zone in another -/
def Sub (Z : Nat → Prop) (wz : World) (Z' : Nat → Prop) (wz' : World) : Prop := ∀ k, Z k → Z' k ∧ wz'.heap[k]? = wz.heap[k]?

theorem Sub.refl (Z : Nat → Prop) (wz : World) : Sub Z wz Z wz := fun k h => ⟨h, rfl⟩
theorem Sub.trans {Z Z' Z'' : Nat → Prop} {wz wz' wz'' : World} (h : Sub Z wz Z' wz') (h' : Sub Z' wz' Z'' wz'') : Sub Z wz Z'' wz'' :=
  fun k hk => ⟨(h' k (h k hk).1).1, ((h' k (h k hk).1).2).trans (h k hk).2⟩

theorem Imm.sub {Z Z' : Nat → Prop} {wz wz' : World} (h : Imm Z wz d A n c xs) (hs : Sub Z wz Z' wz') : Imm Z' wz' d A n c xs := by
  refine ⟨h.ln, h.le, h.mx, fun hpos => ?_⟩
  obtain ⟨ad, e, hz, hr⟩ := h.rd hpos
  refine ⟨ad, e, (hs _ hz).1, fun j x hx => ?_⟩
  obtain ⟨cs, hV, hc⟩ := hr j x hx
  refine ⟨cs, hV, fun q u hu => ?_⟩
  rw [← hc q u hu]
  exact World.cell?_of_block (by rw [add_block]; exact (hs _ hz).2)

/-- a row of the call's own, and the zone: one zone -/
theorem SH.freeze {Z : Nat → Prop} {wz : World} (h : SH r (own d e A n c xs :: zone Z wz :: L) w) :
    ∃ Z' wz', SH r (zone Z' wz' :: L) w ∧ Imm Z' wz' d A n c xs ∧ Sub Z wz Z' wz' := by
  obtain ⟨S1, S2, h1, h2, hd, hA, S3, S4, h3, h4, hd', hB, hL⟩ := h.sep
  refine ⟨fun k => S1 k ∨ S3 k, w, ⟨h.os, h.tape, h.output, fun k => S1 k ∨ S3 k, S4, fun k q => q.elim (h1 k) (fun q => h2 k (h3 k q)), fun k q => h2 k (h4 k q), fun k q q4 => q.elim (fun q => hd k q (h4 k q4)) (fun q => hd' k q q4),
    ⟨fun _ q => q, fun _ _ => rfl⟩, hL⟩, ⟨hA.1, (own_le hA).1, (own_le hA).2, fun hpos => ?_⟩, fun k hk => ⟨.inr (hB.1 k hk), hB.2 k hk⟩⟩
  obtain ⟨ad, e, hr⟩ := own_rd hA hpos
  subst e
  exact ⟨ad, rfl, .inl (hA.2.2 _ rfl), hr⟩

theorem SH.freeze_blk {Z : Nat → Prop} {wz : World} {g : Nat} {T : TypeId} {cs : List Value} (h : SH r (blk g T cs :: zone Z wz :: L) w) :
    ∃ Z' wz', SH r (zone Z' wz' :: L) w ∧ (Z' g ∧ wz'.heap[g]? = some (.cells cs.toArray T (0, 0))) ∧ Sub Z wz Z' wz' := by
  obtain ⟨S1, S2, h1, h2, hd, hA, S3, S4, h3, h4, hd', hB, hL⟩ := h.sep
  exact ⟨fun k => S1 k ∨ S3 k, w, ⟨h.os, h.tape, h.output, fun k => S1 k ∨ S3 k, S4, fun k q => q.elim (h1 k) (fun q => h2 k (h3 k q)), fun k q => h2 k (h4 k q), fun k q q4 => q.elim (fun q => hd k q (h4 k q4)) (fun q => hd' k q q4),
    ⟨fun _ q => q, fun _ _ => rfl⟩, hL⟩, ⟨.inl hA.1, hA.2⟩, fun k hk => ⟨.inr (hB.1 k hk), hB.2 k hk⟩⟩

theorem Lay.imp {d' : Kd α} (hd : ∀ x cs, d.V x cs → d'.V x cs) : ∀ {xs : List α} {cs : List Value}, Lay d xs cs → Lay d' xs cs
  | [], _, h => h
  | x :: xs, _, ⟨c1, c2, e, hV, hL⟩ => ⟨c1, c2, e, hd _ _ hV, Lay.imp hd hL⟩

/-- a row of another kind -/
theorem SH.kind {d' : Kd α} (h : SH r (own d e A n c xs :: L) w) (hs : d.sz = d'.sz) (hd : ∀ x cs, d.V x cs → d'.V x cs) : SH r (own d' e A n c xs :: L) w := by
  obtain ⟨S1, S2, h1, h2, hd', ⟨hn, ⟨inner, hL', ho⟩, hS⟩, hL⟩ := h.sep
  exact ⟨h.os, h.tape, h.output, S1, S2, h1, h2, hd', ⟨hn, ⟨inner, hL'.imp hd, by rw [← hs]; exact ho⟩, hS⟩, hL⟩

theorem SH.imp {B C : HP} (h : SH r (B :: L) w) (hi : ∀ S, B.P w S → C.P w S) : SH r (C :: L) w := by
  obtain ⟨S1, S2, h1, h2, hd', hB, hL⟩ := h.sep
  exact ⟨h.os, h.tape, h.output, S1, S2, h1, h2, hd', hi _ hB, hL⟩

theorem SH.unstar {Ls : List HP} (h : SH r (star Ls :: L) w) : SH r (Ls ++ L) w := by
  obtain ⟨S1, S2, h1, h2, hd, hA, hL⟩ := h.sep
  exact h.upd h1 h2 hd hL rfl rfl rfl (Nat.le_refl _) (fun _ _ _ => rfl) fun S hS _ _ => Sep.mono hA hS

theorem Sep.star : ∀ {Ls L : List HP} {S : Nat → Prop}, Sep (Ls ++ L) w S → Sep (star Ls :: L) w S
  | [], L, S, h => ⟨fun _ => False, S, fun _ h => h.elim, fun _ h => h, fun _ h => h.elim, trivial, h⟩
  | B :: Ls, L, S, ⟨S1, S2, h1, h2, hd, hB, hL⟩ => by
    obtain ⟨S3, S4, h3, h4, hd', hs, hL'⟩ := Sep.star (Ls := Ls) hL
    exact ⟨fun k => S1 k ∨ S3 k, S4, fun k q => q.elim (h1 k) (fun q => h2 k (h3 k q)), fun k q => h2 k (h4 k q), fun k q q4 => q.elim (fun q => hd k q (h4 k q4)) (fun q => hd' k q q4),
      ⟨S1, S3, fun _ => .inl, fun _ => .inr, fun k q q3 => hd k q (h3 k q3), hB, hs⟩, hL'⟩

theorem SH.star {Ls : List HP} (h : SH r (Ls ++ L) w) : SH r (star Ls :: L) w := ⟨h.os, h.tape, h.output, Sep.star h.sep⟩

theorem SH.unex {ι : Type} {f : ι → HP} (h : SH r (ex f :: L) w) : ∃ i, SH r (f i :: L) w := by
  obtain ⟨S1, S2, h1, h2, hd, ⟨i, hA⟩, hL⟩ := h.sep
  exact ⟨i, h.os, h.tape, h.output, S1, S2, h1, h2, hd, hA, hL⟩

theorem SH.ex {ι : Type} {f : ι → HP} (i : ι) (h : SH r (f i :: L) w) : SH r (ex f :: L) w := h.imp fun _ h => ⟨i, h⟩

theorem SH.nil_own (h : SH r L w) : SH r (own d e none 0 0 ([] : List α) :: L) w :=
  ⟨h.os, h.tape, h.output, fun _ => False, _, fun _ h => h.elim, fun _ h => h, fun _ h => h.elim, own_nil, h.sep⟩

end
#print axioms SH.freeze
end Go.Proofs.Ytgjhiojkkjaloaa.E
