/- What an argument holds, whatever it is: from the row's reading to the engine's kinds; and what a law leaves, as the row asks it. -/
import Derived.Test.YtgjhiojkkjaloaaEg
import Derived.Deep.Slices
import Derived.Deep.Fields
import Derived.SizedLaws
import Derived.Below
import Derived.Carry
import Derived.WalkKit
import Derived.ProofKit
import Derived.OpenShut
import Derived.ShutString
import Derived.ChangeOld
namespace Go.Proofs.Ytgjhiojkkjaloaa.E
open Go Go.RowKit Go.ChangeShapes Go.WideShapes Go.Deep
set_option linter.unusedVariables false
set_option linter.unusedSimpArgs false

def Wt {H : Type} (P : Program) (t : TypeId) (d : DataW H) : Prop := ∀ n ∈ d.weights P t, n ≤ reachBytes
def HeapZ (W : World) : Nat → Prop := fun k => k < W.heap.size

def Opens {α : Type} (P : Program) (W : World) (t : TypeId) (d : Kd α) (g : α → Prop) : Prop :=
  ∀ (H : Type) (enc : TypeId × Value → H) (held : Bool) (fuel : Nat) (cs : List Value) (x : DataW H × List MemPlace),
    DataW.trod enc P W 0 (fun _ => true) held fuel t cs = some x → Wt P t x.1 → ∃ a, d.V a cs ∧ g a

def gI (k : IntKind) (n : Int) : Prop := (Lit.int k n).wf = true
def gB (_ : Bool) : Prop := True
def gS (s : List UInt8) : Prop := s.length ≤ reachBytes
def gF (b : Nat) : Prop := (Lit.float .f64 b).wf = true
def gL {α : Type} (by_ : Nat) (g : α → Prop) (xs : List α) : Prop := xs.length * by_ ≤ reachBytes ∧ ∀ x ∈ xs, g x

section
variable {P : Program} {W : World} {t e : TypeId}

theorem opI {k : IntKind} (hu : P.underlying t = some (.int k)) : Opens P W t (kI k) (gI k) := by
  intro H enc held fuel cs x h _
  obtain ⟨n, hc, _, hw⟩ := DataW.trod_int hu h
  exact ⟨n, hc, hw⟩

theorem opB (hu : P.underlying t = some .bool) : Opens P W t kB gB := by
  intro H enc held fuel cs x h _
  obtain ⟨b, hc, _⟩ := DataW.trod_bool hu h
  exact ⟨b, hc, trivial⟩

theorem opS (hu : P.underlying t = some .string) : Opens P W t kS gS := by
  intro H enc held fuel cs x h hw
  obtain ⟨s, hc, hx, _⟩ := DataW.trod_string hu h
  refine ⟨s.data.toList, by rw [hc]; rfl, ?_⟩
  have := hw s.data.toList.length (by rw [hx]; simp [DataW.weights])
  exact this

theorem trod_float {H : Type} {enc : TypeId × Value → H} {base : Nat} {spare : Nat → Bool} {held : Bool} {fuel : Nat} {cs : List Value} {x : DataW H × List MemPlace} {k : FloatKind}
    (ht : P.underlying t = some (.float k)) (h : DataW.trod enc P W base spare held fuel t cs = some x) : ∃ b, cs = [.float k b] ∧ (Lit.float k b).wf = true := by
  cases fuel with
  | zero => simp [DataW.trod] at h
  | succ n =>
    unfold DataW.trod at h
    rw [ht] at h
    split at h <;> simp_all

theorem opF (hu : P.underlying t = some (.float .f64)) : Opens P W t kF gF := by
  intro H enc held fuel cs x h hw
  obtain ⟨b, hc, hwf⟩ := trod_float hu h
  exact ⟨b, hc, hwf⟩

theorem pick_list {α : Type} {Q : Nat → α → Prop} : ∀ (n : Nat), (∀ i, i < n → ∃ a, Q i a) → ∃ xs : List α, xs.length = n ∧ ∀ i x, xs[i]? = some x → Q i x
  | 0, _ => ⟨[], rfl, fun i x h => by simp at h⟩
  | n + 1, h => by
    obtain ⟨xs, hl, hx⟩ := pick_list n fun i hi => h i (by omega)
    obtain ⟨a, ha⟩ := h n (by omega)
    refine ⟨xs ++ [a], by simp [hl], fun i x hi => ?_⟩
    rw [List.getElem?_append] at hi
    split at hi
    · exact hx i x hi
    · rename_i hge
      have : i - xs.length = 0 := by
        have := (List.getElem?_eq_some_iff.1 hi).1
        simp at this
        omega
      rw [this] at hi
      simp at hi
      subst hi
      rw [show i = n by omega]
      exact ha

theorem opSl {α : Type} {d : Kd α} {g : α → Prop} {by_ : Nat} (hu : P.underlying t = some (.slice e)) (hc : P.cellsOf e = d.sz) (hz : 0 < d.sz) (hb : P.bytesOf e = by_) (he : Opens P W e d g) :
    Opens P W t (kM (HeapZ W) W d) (gL by_ g) := by
  intro H enc held fuel cs x h hw
  rcases open_slice hu h with ⟨rfl, rfl⟩ | ⟨a, len, cap, m, n, D, Pl, rfl, _, hl, hm, hmm, rfl, hi⟩
  · exact ⟨[], ⟨none, 0, 0, rfl, Imm.nil⟩, by simp, fun x h => by simp at h⟩
  · simp only [if_true] at hmm
    subst hmm
    have hwt : ∀ i, i < m → Wt P e (D i) := by
      intro i him q hq
      refine hw q ?_
      simp only [DataW.weights, hu, List.mem_cons, List.mem_append]
      have key : ∀ (l : List Nat), (∃ j ∈ l, q ∈ (D j).weights P e) → q ∈ DataW.weightsAll P e (l.map D) := by
        intro l
        induction l with
        | nil => rintro ⟨j, hj, _⟩; simp at hj
        | cons a l ih =>
          rintro ⟨j, hj, hq⟩
          simp only [List.map_cons, DataW.weightsAll, List.mem_append]
          rcases List.mem_cons.1 hj with rfl | hj
          · exact .inl hq
          · exact .inr (ih ⟨j, hj, hq⟩)
      rcases Nat.lt_or_ge i len with hil | hil
      · exact .inr (.inl (key _ ⟨i, List.mem_range.2 hil, hq⟩))
      · refine .inr (.inr ?_)
        have : (List.range (m - len)).map (fun j => D (len + j)) = ((List.range (m - len)).map (len + ·)).map D := by simp [Function.comp_def]
        rw [this]
        exact key _ ⟨i, List.mem_map.2 ⟨i - len, List.mem_range.2 (by omega), by omega⟩, hq⟩
    obtain ⟨xs, hxl, hx⟩ := pick_list (Q := fun i y => g y ∧ ∃ cs', d.V y cs' ∧ a.block < W.heap.size ∧ ∀ q u, cs'[q]? = some u → W.cell? (a.add (i * d.sz + q)) = some u) len (fun i hil => by
      obtain ⟨cs', hcell, ht⟩ := hi i (by omega)
      obtain ⟨y, hV, hg⟩ := he H enc held n cs' _ ht (hwt i (by omega))
      rw [hc] at hcell
      obtain ⟨_, hcl, hat⟩ := World.cells?_some hcell
      have hq : ∀ q u, cs'[q]? = some u → W.cell? (a.add (i * d.sz + q)) = some u := by
        intro q u hu
        have hql := (List.getElem?_eq_some_iff.1 hu).1
        rw [← Go.Proofs.Ytgjhiojkkjaloaa.E.add_add', hat q (by omega), hu]
      refine ⟨y, hg, cs', hV, ?_, hq⟩
      have h0 := hq 0 _ (List.getElem?_eq_getElem (by omega))
      have hb : ∀ k, (a.add k).block = a.block := fun k => add_block a k
      unfold World.cell? at h0
      rw [hb] at h0
      rcases hh : W.heap[a.block]? with _ | o
      · rw [hh] at h0; cases h0
      · exact (Array.getElem?_eq_some_iff.1 hh).1)
    refine ⟨xs, ⟨some a, len, m, rfl, hxl, by omega, hm, fun hpos => ⟨a, rfl, ?_, fun j y hy => ?_⟩⟩, ?_, fun y hy => ?_⟩
    · obtain ⟨_, cs', _, hblk, _⟩ := hx 0 _ (List.getElem?_eq_getElem hpos)
      exact hblk
    · obtain ⟨_, cs', hV, _, hq⟩ := hx j y hy
      exact ⟨cs', hV, hq⟩
    · have := hw ((((List.range len).map D).length + ((List.range (m - len)).map fun j => D (len + j)).length) * P.bytesOf e) (by simp only [DataW.weights, hu]; exact List.mem_cons_self)
      rw [hb] at this
      simp only [List.length_map, List.length_range] at this
      rw [hxl]
      exact Nat.le_trans (Nat.mul_le_mul_right _ (by omega)) this
    · obtain ⟨j, hj⟩ := List.getElem?_of_mem hy
      exact (hx j y hj).1

theorem fld {H : Type} {enc : TypeId × Value → H} {held : Bool} {fs : Array Field} {ys : List (DataW H × List MemPlace)} {n : Nat} {cs : List Value} (hu : P.underlying e = some (.struct fs))
    (hf : ∀ (i : Nat) (f : Field), fs[i]? = some f → DataW.trod enc P W 0 (fun _ => true) held n f.type ((cs.drop f.offset).take (P.cellsOf f.type)) = ys[i]?) (hyl : ys.length = fs.size)
    (hw : Wt P e (.agg (ys.map (·.1)))) (i : Nat) {f : Field} (hi : fs[i]? = some f) {o c : Nat} (ht : f.type = t) (ho : f.offset = o) (hc : P.cellsOf t = c) {α : Type} {d : Kd α} {g : α → Prop} (hO : Opens P W t d g) :
    ∃ a, d.V a ((cs.drop o).take c) ∧ g a := by
  have hlt := (Array.getElem?_eq_some_iff.1 hi).1
  have h := hf i f hi
  subst ht ho hc
  rw [List.getElem?_eq_getElem (by omega)] at h
  refine hO H enc held n _ _ h fun q hq => hw q ?_
  simp only [DataW.weights, hu]
  refine DataW.weights_mem_each (j := i) (t := f.type) (d := (ys[i]'(by omega)).1) ?_ ?_ q hq
  · rw [List.getElem?_map, Array.getElem?_toList, hi]; rfl
  · rw [List.getElem?_map, List.getElem?_eq_getElem (by omega)]; rfl

/-- a parameter's value -/
theorem Opens.arg {H : Type} {enc : TypeId × Value → H} {held : Bool} {v : Value} {x : DataW H} {p : List MemPlace} {α : Type} {d : Kd α} {g : α → Prop} (hO : Opens P W t d g)
    (h : DataW.Trod enc P W 0 (fun _ => true) held t v x p) (hw : Wt P t x) : ∃ a, d.V a v.cells.toList ∧ g a := by
  obtain ⟨fuel, h⟩ := h
  exact hO H enc held fuel _ _ h hw

theorem SH.start (W : World) : SH W [zone (HeapZ W) W] W :=
  ⟨rfl, rfl, rfl, fun k => k < W.heap.size, fun _ => False, fun _ h => h, fun _ h => h.elim, fun _ _ h => h, ⟨fun _ h => h, fun _ _ => rfl⟩, trivial⟩

theorem SH.below {W w' : World} {Z : Nat → Prop} {wz : World} {L : List HP} (h : SH W (zone Z wz :: L) w') (hs : Sub (HeapZ W) W Z wz) : Below W.heap.size W w' := by
  obtain ⟨S1, S2, h1, h2, hd, hA, hL⟩ := h.sep
  refine ⟨h.os, h.tape, h.output, ?_, fun k hk => (hA.2 k (hs k hk).1).trans (hs k hk).2⟩
  rcases Nat.eq_zero_or_pos W.heap.size with h0 | h0
  · omega
  · have := h1 _ (hA.1 _ (hs (W.heap.size - 1) (show W.heap.size - 1 < W.heap.size by omega)).1)
    omega

theorem Wt.of {H : Type} {ts : List TypeId} {ds : List (DataW H)} (h : (DataW.weightsEach P ts ds).all (· ≤ reachBytes) = true) {j : Nat} {d : DataW H} (ht : ts[j]? = some t) (hd : ds[j]? = some d) : Wt P t d := by
  intro n hn
  have := List.all_eq_true.1 h _ (DataW.weights_mem_each ht hd n hn)
  simpa using this
end
end Go.Proofs.Ytgjhiojkkjaloaa.E
