/- Texts of the claim, joined: what it uses of Eo, Ep, Eh, Eq, Er, Ds, Kd, Es, Gr, Op, Dpg, Mpg, Dpl, Mpl, Dpr, Mpr, Dql, Mql, Dre, Mre, Dce. -/
import Derived.Test.YteodeedejjcmgaaDoorZa
import Derived.Deep.Slices
import Derived.Deep.Fields
import Derived.SizedLaws
import Derived.Below
import Derived.Carry
import Derived.WalkKit
import Derived.ProofKit
import Derived.OpenShut
import Derived.ShutString
import Derived.ChangeOld
import Derived.FnData
import Derived.LaidMore
import Derived.LaidLaws
import Derived.MakeChecks
import Derived.Lib.SlicesCompact
import Derived.Sort.OwnSorted
import Derived.Shelf.SlIter.Collect
import Derived.RangeFuncCalls
import Derived.RangeFuncLeaves
import Derived.RangeFuncRecord
import Derived.RangeFuncSeq
import Derived.OrdersIn
import Derived.TacticsIn
import Derived.OwnWalkIn
import Derived.Laws.StructEq
import Derived.Test.YteodeedejjcmgaaDoorProg
namespace Go.Proofs.YteodeedejjcmgaaDoor.E
open Go Go.RowKit
set_option linter.unusedVariables false
set_option linter.unusedSimpArgs false
section
variable {P : Program} {ops : Array Oper} {Q : Exit → Act → World → Prop} {rest : List Oper} {o : Oper} {a : Act} {w : World} {K : Act → World → Prop} {r : World} {L L' : List HP} {t e : TypeId} {x : Operand} {A : Option Addr} {n c : Nat} {xs : List Int}
end
end Go.Proofs.YteodeedejjcmgaaDoor.E
namespace Go.Proofs.YteodeedejjcmgaaDoor.E
open Go Go.RowKit
set_option linter.unusedVariables false
set_option linter.unusedSimpArgs false
section
variable {P : Program} {ops : Array Oper} {Q : Exit → Act → World → Prop} {rest : List Oper} {o : Oper} {a : Act} {w : World} {K : Act → World → Prop} {r : World} {L L' : List HP} {t e T xt yt t' : TypeId} {x y : Operand} {A : Option Addr} {n c m : Nat} {xs : List Int} {s : List UInt8} {v : Value}
end
section
variable {Z : Nat → Prop} {wz : World} {L : List HP} {α : Type} {d : Kd α} {A : Option Addr} {n c : Nat} {xs ys : List α} {l u : Int}
theorem rv_e {P : Program} {o : Oper} {a : Act} {w : World} {v v' : Value} (h : v = v') (hr : RunV P o a w v') : RunV P o a w v := h ▸ hr
theorem imm_hc (h : Imm Z wz d A n c xs) (hx : cut_ xs 0 u = some ys) : ∃ A' n' c', Value.slice A' n' c' = .slice A u.toNat c ∧ Imm Z wz d A' n' c' ys := ⟨_, _, _, rfl, imm_h h hx⟩
theorem imm_lc (h : Imm Z wz d A n c xs) (hx : cut_ xs l (xs.length : Int) = some ys) : ∃ A' n' c', Value.slice A' n' c' = .slice (if c = l.toNat then A else A.map (·.add (l.toNat * d.sz))) (n - l.toNat) (c - l.toNat) ∧ Imm Z wz d A' n' c' ys := ⟨_, _, _, rfl, imm_l h hx⟩
theorem imm_lhc (h : Imm Z wz d A n c xs) (hx : cut_ xs l u = some ys) : ∃ A' n' c', Value.slice A' n' c' = .slice (if c = l.toNat then A else A.map (·.add (l.toNat * d.sz))) (u.toNat - l.toNat) (c - l.toNat) ∧ Imm Z wz d A' n' c' ys := ⟨_, _, _, rfl, imm_lh h hx⟩
theorem lv4 {P : Program} {a : Act} {w : World} {n : Nat} {F : List (Nat × Value)} {fn : Func} {R : Value → World → Prop} {t u q s : Nat} {v1 v2 v3 v4 : Value} (hr : fn.results = #[.tmp t, .tmp u, .tmp q, .tmp s]) (hA : FR n [] a F) (h1 : lk F t = some v1) (h2 : lk F u = some v2) (h3 : lk F q = some v3) (h4 : lk F s = some v4) (h : R (.tuple #[v1, v2, v3, v4]) w) : bodyPost P fn (fun e w' => ∃ v, e = .returned v ∧ R v w') .ret a w :=
  bodyPost_ret (v := .tuple #[v1, v2, v3, v4]) (by
    have e1 : a.tmps.getD t undef = v1 := hA.ev (x := .tmp t) h1
    have e2 : a.tmps.getD u undef = v2 := hA.ev (x := .tmp u) h2
    have e3 : a.tmps.getD q undef = v3 := hA.ev (x := .tmp q) h3
    have e4 : a.tmps.getD s undef = v4 := hA.ev (x := .tmp s) h4
    rw [← e1, ← e2, ← e3, ← e4]
    simp [results, hr]) hA.defers ⟨_, rfl, h⟩
end
section
variable {P : Program} {ops : Array Oper} {Q : Exit → Act → World → Prop} {rest : List Oper} {o : Oper} {a : Act} {w : World} {r : World} {L : List HP} {t e T t' : TypeId} {x y : Operand} {α : Type} {d : Kd α} {xs : List α} {k : IntKind} {i : Int}
theorem r_iaA {g m sz : Nat} (hu : P.underlying t = some (.array m e)) (hi : (P.info? e).map (·.size) = some sz) (ho : o.op = .indexAddr t x y) (hx : a.eval x = .pointer (some ⟨g, 0, none⟩)) (hy : a.eval y = .int k i)
    (h0 : 0 ≤ i) (h1 : i < (m : Int)) : RunV P o a w (.pointer (some (ea (some ⟨g, 0, none⟩) (i.toNat * sz)))) := by
  unfold RunV execOp; rw [ho]
  obtain ⟨q, hq1, hq2⟩ := Option.map_eq_some_iff.1 hi
  simp [hx, hy, Instr.indexAt, asIntOf, run_underlying hu, h0, h1, sizeOf, typeInfo, hq1, hq2, ea, Instr.sureAddr]
theorem y_iaA {D : List Deferred} {n : Nat} {F : List (Nat × Value)} {g m c sz : Nat} {z : α} (hu : P.underlying t = some (.array m e)) (hi : (P.info? e).map (·.size) = some sz) (hr : Rd d w (some ⟨g, 0, none⟩) xs ∧ xs.length = m ∧ m ≤ c ∧ c ≤ maxLen) (hz : at_ xs i = some z) (hA : FR n D a F)
    (ho : o.op = .indexAddr t x y := by rfl) (hx : ev F x = some (.pointer (some ⟨g, 0, none⟩)) := by rfl) (hy : ev F y = some (.int k i) := by rfl) : RunV P o a w (.pointer (some (ea (some ⟨g, 0, none⟩) (i.toNat * sz)))) :=
  have h := at_some hz
  r_iaA hu hi ho (hA.ev hx) (hA.ev hy) h.1 (by have := hr.2.1; omega)
theorem x_iaA {D : List Deferred} {n q : Nat} {F : List (Nat × Value)} {g m c sz : Nat} {z : α} (hu : P.underlying t = some (.array m e)) (hi : (P.info? e).map (·.size) = some sz) (hr : Rd d w (some ⟨g, 0, none⟩) xs ∧ xs.length = m ∧ m ≤ c ∧ c ≤ maxLen) (hz : at_ xs i = some z) (hA : FR n D a F)
    (kk : ∀ a', FR n D a' ((q, .pointer (some (ea (some ⟨g, 0, none⟩) (i.toNat * sz)))) :: F) → wpList P ops Q rest a' w)
    (ho : o.op = .indexAddr t x y := by rfl) (hx : ev F x = some (.pointer (some ⟨g, 0, none⟩)) := by rfl) (hy : ev F y = some (.int k i) := by rfl) (hd : o.dst = some q := by rfl) (hg : o.guard = none := by rfl) (ht : Nat.blt q n = true := by rfl) : wpList P ops Q (o :: rest) a w :=
  x_val hA (y_iaA hu hi hr hz hA ho hx hy) kk hd hg ht
end
end Go.Proofs.YteodeedejjcmgaaDoor.E
namespace Go.Proofs.YteodeedejjcmgaaDoor.E
open Go Go.RowKit Go.ChangeShapes Go.WideShapes Go.Deep
set_option linter.unusedVariables false
set_option linter.unusedSimpArgs false
def Wt {H : Type} (P : Program) (t : TypeId) (d : DataW H) : Prop := ∀ n ∈ d.weights P t, n ≤ reachBytes
def HeapZ (W : World) : Nat → Prop := fun k => k < W.heap.size
def Opens {α : Type} (P : Program) (W : World) (t : TypeId) (d : Kd α) (g : α → Prop) : Prop :=
  ∀ (H : Type) (enc : TypeId × Value → H) (held : Bool) (fuel : Nat) (cs : List Value) (x : DataW H × List MemPlace),
    DataW.trod enc P W 0 (fun _ => true) held fuel t cs = some x → Wt P t x.1 → ∃ a, d.V a cs ∧ g a
def gI (k : IntKind) (n : Int) : Prop := (Lit.int k n).wf = true
def gS (s : List UInt8) : Prop := s.length ≤ reachBytes
def gF (b : Nat) : Prop := (Lit.float .f64 b).wf = true
def gL {α : Type} (by_ : Nat) (g : α → Prop) (xs : List α) : Prop := xs.length * by_ ≤ reachBytes ∧ ∀ x ∈ xs, g x
section
variable {P : Program} {W : World} {t e : TypeId}
theorem opI {k : IntKind} (hu : P.underlying t = some (.int k)) : Opens P W t (kI k) (gI k) := by
  intro H enc held fuel cs x h _
  obtain ⟨n, hc, _, hw⟩ := DataW.trod_int hu h
  exact ⟨n, hc, hw⟩
theorem opS (hu : P.underlying t = some .string) : Opens P W t kS gS := by
  intro H enc held fuel cs x h hw
  obtain ⟨s, hc, hx, _⟩ := DataW.trod_string hu h
  refine ⟨s.data.toList, by rw [hc]; rfl, ?_⟩
  have := hw s.data.toList.length (by rw [hx]; simp [DataW.weights])
  exact this
theorem trod_float {H : Type} {enc : TypeId × Value → H} {base : Nat} {spare : Nat → Bool} {held : Bool} {fuel : Nat} {cs : List Value} {x : DataW H × List MemPlace} {k : FloatKind}
    (ht : P.underlying t = some (.float k)) (h : DataW.trod enc P W base spare held fuel t cs = some x) : ∃ b, cs = [.float k b] ∧ (Lit.float k b).wf = true := by
  cases fuel with
  | zero => simp [DataW.trod] at h
  | succ n =>
    unfold DataW.trod at h
    rw [ht] at h
    split at h <;> simp_all
theorem opF (hu : P.underlying t = some (.float .f64)) : Opens P W t kF gF := by
  intro H enc held fuel cs x h hw
  obtain ⟨b, hc, hwf⟩ := trod_float hu h
  exact ⟨b, hc, hwf⟩
theorem pick_list {α : Type} {Q : Nat → α → Prop} : ∀ (n : Nat), (∀ i, i < n → ∃ a, Q i a) → ∃ xs : List α, xs.length = n ∧ ∀ i x, xs[i]? = some x → Q i x
  | 0, _ => ⟨[], rfl, fun i x h => by simp at h⟩
  | n + 1, h => by
    obtain ⟨xs, hl, hx⟩ := pick_list n fun i hi => h i (by omega)
    obtain ⟨a, ha⟩ := h n (by omega)
    refine ⟨xs ++ [a], by simp [hl], fun i x hi => ?_⟩
    rw [List.getElem?_append] at hi
    split at hi
    · exact hx i x hi
    · rename_i hge
      have : i - xs.length = 0 := by
        have := (List.getElem?_eq_some_iff.1 hi).1
        simp at this
        omega
      rw [this] at hi
      simp at hi
      subst hi
      rw [show i = n by omega]
      exact ha
theorem opSl {α : Type} {d : Kd α} {g : α → Prop} {by_ : Nat} (hu : P.underlying t = some (.slice e)) (hc : P.cellsOf e = d.sz) (hz : 0 < d.sz) (hb : P.bytesOf e = by_) (he : Opens P W e d g) :
    Opens P W t (kM (HeapZ W) W d) (gL by_ g) := by
  intro H enc held fuel cs x h hw
  rcases open_slice hu h with ⟨rfl, rfl⟩ | ⟨a, len, cap, m, n, D, Pl, rfl, _, hl, hm, hmm, rfl, hi⟩
  · exact ⟨[], ⟨none, 0, 0, rfl, Imm.nil⟩, by simp, fun x h => by simp at h⟩
  · simp only [if_true] at hmm
    subst hmm
    have hwt : ∀ i, i < m → Wt P e (D i) := by
      intro i him q hq
      refine hw q ?_
      simp only [DataW.weights, hu, List.mem_cons, List.mem_append]
      have key : ∀ (l : List Nat), (∃ j ∈ l, q ∈ (D j).weights P e) → q ∈ DataW.weightsAll P e (l.map D) := by
        intro l
        induction l with
        | nil => rintro ⟨j, hj, _⟩; simp at hj
        | cons a l ih =>
          rintro ⟨j, hj, hq⟩
          simp only [List.map_cons, DataW.weightsAll, List.mem_append]
          rcases List.mem_cons.1 hj with rfl | hj
          · exact .inl hq
          · exact .inr (ih ⟨j, hj, hq⟩)
      rcases Nat.lt_or_ge i len with hil | hil
      · exact .inr (.inl (key _ ⟨i, List.mem_range.2 hil, hq⟩))
      · refine .inr (.inr ?_)
        have : (List.range (m - len)).map (fun j => D (len + j)) = ((List.range (m - len)).map (len + ·)).map D := by simp [Function.comp_def]
        rw [this]
        exact key _ ⟨i, List.mem_map.2 ⟨i - len, List.mem_range.2 (by omega), by omega⟩, hq⟩
    obtain ⟨xs, hxl, hx⟩ := pick_list (Q := fun i y => g y ∧ ∃ cs', d.V y cs' ∧ a.block < W.heap.size ∧ ∀ q u, cs'[q]? = some u → W.cell? (a.add (i * d.sz + q)) = some u) len (fun i hil => by
      obtain ⟨cs', hcell, ht⟩ := hi i (by omega)
      obtain ⟨y, hV, hg⟩ := he H enc held n cs' _ ht (hwt i (by omega))
      rw [hc] at hcell
      obtain ⟨_, hcl, hat⟩ := World.cells?_some hcell
      have hq : ∀ q u, cs'[q]? = some u → W.cell? (a.add (i * d.sz + q)) = some u := by
        intro q u hu
        have hql := (List.getElem?_eq_some_iff.1 hu).1
        rw [← Go.Proofs.YteodeedejjcmgaaDoor.E.add_add', hat q (by omega), hu]
      refine ⟨y, hg, cs', hV, ?_, hq⟩
      have h0 := hq 0 _ (List.getElem?_eq_getElem (by omega))
      have hb : ∀ k, (a.add k).block = a.block := fun k => add_block a k
      unfold World.cell? at h0
      rw [hb] at h0
      rcases hh : W.heap[a.block]? with _ | o
      · rw [hh] at h0; cases h0
      · exact (Array.getElem?_eq_some_iff.1 hh).1)
    refine ⟨xs, ⟨some a, len, m, rfl, hxl, by omega, hm, fun hpos => ⟨a, rfl, ?_, fun j y hy => ?_⟩⟩, ?_, fun y hy => ?_⟩
    · obtain ⟨_, cs', _, hblk, _⟩ := hx 0 _ (List.getElem?_eq_getElem hpos)
      exact hblk
    · obtain ⟨_, cs', hV, _, hq⟩ := hx j y hy
      exact ⟨cs', hV, hq⟩
    · have := hw ((((List.range len).map D).length + ((List.range (m - len)).map fun j => D (len + j)).length) * P.bytesOf e) (by simp only [DataW.weights, hu]; exact List.mem_cons_self)
      rw [hb] at this
      simp only [List.length_map, List.length_range] at this
      rw [hxl]
      exact Nat.le_trans (Nat.mul_le_mul_right _ (by omega)) this
    · obtain ⟨j, hj⟩ := List.getElem?_of_mem hy
      exact (hx j y hj).1
theorem fld {H : Type} {enc : TypeId × Value → H} {held : Bool} {fs : Array Field} {ys : List (DataW H × List MemPlace)} {n : Nat} {cs : List Value} (hu : P.underlying e = some (.struct fs))
    (hf : ∀ (i : Nat) (f : Field), fs[i]? = some f → DataW.trod enc P W 0 (fun _ => true) held n f.type ((cs.drop f.offset).take (P.cellsOf f.type)) = ys[i]?) (hyl : ys.length = fs.size)
    (hw : Wt P e (.agg (ys.map (·.1)))) (i : Nat) {f : Field} (hi : fs[i]? = some f) {o c : Nat} (ht : f.type = t) (ho : f.offset = o) (hc : P.cellsOf t = c) {α : Type} {d : Kd α} {g : α → Prop} (hO : Opens P W t d g) :
    ∃ a, d.V a ((cs.drop o).take c) ∧ g a := by
  have hlt := (Array.getElem?_eq_some_iff.1 hi).1
  have h := hf i f hi
  subst ht ho hc
  rw [List.getElem?_eq_getElem (by omega)] at h
  refine hO H enc held n _ _ h fun q hq => hw q ?_
  simp only [DataW.weights, hu]
  refine DataW.weights_mem_each (j := i) (t := f.type) (d := (ys[i]'(by omega)).1) ?_ ?_ q hq
  · rw [List.getElem?_map, Array.getElem?_toList, hi]; rfl
  · rw [List.getElem?_map, List.getElem?_eq_getElem (by omega)]; rfl
theorem Opens.arg {H : Type} {enc : TypeId × Value → H} {held : Bool} {v : Value} {x : DataW H} {p : List MemPlace} {α : Type} {d : Kd α} {g : α → Prop} (hO : Opens P W t d g)
    (h : DataW.Trod enc P W 0 (fun _ => true) held t v x p) (hw : Wt P t x) : ∃ a, d.V a v.cells.toList ∧ g a := by
  obtain ⟨fuel, h⟩ := h
  exact hO H enc held fuel _ _ h hw
theorem SH.start (W : World) : SH W [zone (HeapZ W) W] W :=
  ⟨rfl, rfl, rfl, fun k => k < W.heap.size, fun _ => False, fun _ h => h, fun _ h => h.elim, fun _ _ h => h, ⟨fun _ h => h, fun _ _ => rfl⟩, trivial⟩
theorem SH.below {W w' : World} {Z : Nat → Prop} {wz : World} {L : List HP} (h : SH W (zone Z wz :: L) w') (hs : Sub (HeapZ W) W Z wz) : Below W.heap.size W w' := by
  obtain ⟨S1, S2, h1, h2, hd, hA, hL⟩ := h.sep
  refine ⟨h.os, h.tape, h.output, ?_, fun k hk => (hA.2 k (hs k hk).1).trans (hs k hk).2⟩
  rcases Nat.eq_zero_or_pos W.heap.size with h0 | h0
  · omega
  · have := h1 _ (hA.1 _ (hs (W.heap.size - 1) (show W.heap.size - 1 < W.heap.size by omega)).1)
    omega
theorem Wt.of {H : Type} {ts : List TypeId} {ds : List (DataW H)} (h : (DataW.weightsEach P ts ds).all (· ≤ reachBytes) = true) {j : Nat} {d : DataW H} (ht : ts[j]? = some t) (hd : ds[j]? = some d) : Wt P t d := by
  intro n hn
  have := List.all_eq_true.1 h _ (DataW.weights_mem_each ht hd n hn)
  simpa using this
end
end Go.Proofs.YteodeedejjcmgaaDoor.E
namespace Go.Proofs.YteodeedejjcmgaaDoor.E
open Go Go.RowKit
theorem tab_imm {P : Program} {W : World} {nm : String} {g t e n : Nat} {k : IntKind} {xs : List Int} (hg : P.globalNamed nm = some g) (ht : (P.globals[g]?).map (·.type) = some t)
    (hu : P.underlying t = some (.array n e)) (he : P.underlying e = some (.int k)) (hce : P.cellsOf e = 1) (hn : xs.length = n) (hm : n ≤ maxLen)
    (h : laidMet P [(nm, .agg (xs.map fun x => .lit (.int k x)))] W) : Imm (HeapZ W) W (kI k) (some ⟨g, 0, none⟩) n n xs := by
  obtain ⟨ps, ⟨g0, t0, cs, f0, p, q, hg0, ht0, hv, hd, _, _⟩, _, _⟩ := h
  obtain rfl := Option.some.inj (hg.symm.trans hg0)
  obtain rfl := Option.some.inj (ht.symm.trans ht0)
  obtain ⟨ys, m, rfl, hx, hl, hyn, hel⟩ := DataW.trod_array hu hd
  have hb : g < W.heap.size := by
    simp only [World.var?, hg, Option.bind_some] at hv
    split at hv
    · rename_i hq; exact (Array.getElem?_eq_some_iff.1 hq).1
    · cases hv
  have hx1 : xs.map (fun x => (DataW.lit (.int k x) : DataW Unit)) = ys.map (·.1) := by
    simp only [Prod.mk.injEq, DataW.agg.injEq] at hx; exact hx.1
  refine ⟨hn, by omega, hm, fun _ => ⟨_, rfl, hb, fun j x hj => ⟨[.int k x], rfl, fun q u hq => ?_⟩⟩⟩
  have hjn : j < n := by have := (List.getElem?_eq_some_iff.1 hj).1; omega
  have h1 := hel j hjn
  rw [hce] at h1
  have h2 : (ys.map (·.1))[j]? = some (.lit (.int k x)) := by rw [← hx1, List.getElem?_map, hj]; rfl
  rw [List.getElem?_map] at h2
  cases hy : ys[j]? with
  | none => rw [hy] at h2; cases h2
  | some y =>
    rw [hy] at h2 h1
    obtain ⟨z, e1, e2, _⟩ := DataW.trod_int he h1
    have hz : z = x := by rw [e2] at h2; simpa using h2
    subst hz
    match q, hq with
    | 0, hq =>
      have hu0 : Value.int k z = u := by simpa using hq
      subst hu0
      have hc := World.var?_cell hg hv j
      have h3 : (cs.toList.drop (j * 1))[0]? = some (.int k z) := by
        have h4 : ((cs.toList.drop (j * 1)).take 1)[0]? = some (.int k z) := by rw [e1]; rfl
        rw [List.getElem?_take_of_lt (by omega)] at h4; exact h4
      rw [List.getElem?_drop] at h3
      have h5 : cs[j]? = some (.int k z) := by
        rw [← Array.getElem?_toList]; rw [show j * 1 + 0 = j by omega] at h3; exact h3
      have h6 : (({ block := g, off := 0 } : Addr).add (j * (kI k).sz + 0)) = ⟨g, j, none⟩ := by
        show Addr.add ⟨g, 0, none⟩ (j * 1 + 0) = ⟨g, j, none⟩
        unfold Addr.add
        split
        · rename_i hz; rw [show j = 0 by omega]
        · simp
      rw [h6, hc, h5]
    | q + 1, hq => simp at hq
end Go.Proofs.YteodeedejjcmgaaDoor.E
namespace Go.Proofs.YteodeedejjcmgaaDoor.E
open Go Go.RowKit
set_option linter.unusedVariables false
theorem lay_kS : ∀ xs : List (List UInt8), Lay kS xs (xs.map encStr)
  | [] => rfl
  | x :: xs => ⟨[str x], _, rfl, rfl, lay_kS xs⟩
theorem lay_kS_eq : ∀ {xs : List (List UInt8)} {cs : List Value}, Lay kS xs cs → cs = xs.map encStr
  | [], cs, h => h
  | x :: xs, cs, ⟨c1, c2, e, h1, h2⟩ => by
    have h1' : c1 = [str x] := h1
    rw [e, h1', lay_kS_eq h2]; rfl
theorem compact_len {α : Type} [Inhabited α] [DecidableEq α] (xs : List α) : (Lib.compact xs).length ≤ xs.length := by
  unfold Lib.compact Lib.compactUpTo
  rw [List.length_map]
  exact Nat.le_trans (List.length_filter_le _ _) (by simp)
theorem SH.newrow {α : Type} {r w w' : World} {L : List HP} {d : Kd α} {e : TypeId} {v : Value} {xs : List α} {inner : List Value} (h : SH r L w) (hb : Below w.heap.size w w')
    (hr : w'.ownsRow w.heap.size e d.sz v xs.length inner) (hL : Lay d xs inner) : ∃ (A : Option Addr) (n c : Nat), v = .slice A n c ∧ SH r (own d e A n c xs :: L) w' := by
  have hr0 := ownsRow_base_a hr (Nat.zero_le _)
  have key : ∃ A c, v = .slice A xs.length c ∧ ∀ k, v.ownBlock = some k → w.heap.size ≤ k ∧ k < w'.heap.size := by
    rcases hr.2 with ⟨rfl, hz⟩ | ⟨g, cap, cur, rfl, hg, hh, _⟩
    · exact ⟨none, 0, by rw [hz], fun k hk => by simp [Value.ownBlock] at hk⟩
    · exact ⟨_, _, rfl, fun k hk => by
        have : g = k := by simpa [Value.ownBlock] using hk
        subst this
        exact ⟨hg, (Array.getElem?_eq_some_iff.1 hh).1⟩⟩
  obtain ⟨A, c, rfl, hk⟩ := key
  refine ⟨A, xs.length, c, rfl, hb.os.trans h.os, hb.tape.trans h.tape, hb.output.trans h.output, fun k => w.heap.size ≤ k ∧ k < w'.heap.size, fun k => k < w.heap.size, fun k hk => hk.2, fun k hk => by have := hb.size; omega, fun k h1 h2 => by omega, ⟨rfl, ⟨inner, hL, hr0⟩, hk⟩, h.sep.fr fun k hk => hb.block k hk⟩
end Go.Proofs.YteodeedejjcmgaaDoor.E
namespace Go.Proofs.YteodeedejjcmgaaDoor.M
open Go Go.RowKit Go.Proofs.YteodeedejjcmgaaDoor.E
set_option linter.unusedVariables false
set_option linter.unusedSimpArgs false
structure S106 where
  f0 : (List Int)
structure S44 where
  f0 : Int
  f1 : Int
  f2 : Int
  f3 : (List UInt8)
  f4 : Nat
structure S33 where
  f0 : Int
  f1 : Int
  f2 : Int
  f3 : Int
structure S41 where
  f0 : Int
  f1 : Int
  f2 : Int
  f3 : Int
  f4 : Int
  f5 : Int
  f6 : (List UInt8)
  f7 : (List UInt8)
structure S83 where
  f0 : (List Int)
  f1 : Int
  f2 : (List S41)
def gl_page_table : List Int := [0, 498536548, 997073096, 651767980, 1994146192, 1802195444, 1303535960, 1342533948, 3988292384, 4027552580, 3604390888, 3412177804, 2607071920, 2262029012, 2685067896, 3183342108]
end Go.Proofs.YteodeedejjcmgaaDoor.M
namespace Go.Proofs.YteodeedejjcmgaaDoor.M
open Go Go.RowKit Go.Proofs.YteodeedejjcmgaaDoor.E
set_option linter.unusedVariables false
set_option linter.unusedSimpArgs false
def k44 : Kd S44 where
  sz := 5
  V x cs := cs = [.int .u64 x.f0, .int .i64 x.f1, .int .i64 x.f2, str x.f3, .float .f64 x.f4]
  len h := by rw [h]; rfl
  one h := by rw [h]; simp [Value.oneCell', str]
def k33 : Kd S33 where
  sz := 4
  V x cs := cs = [.int .u64 x.f0, .int .u64 x.f1, .int .i64 x.f2, .int .i64 x.f3]
  len h := by rw [h]; rfl
  one h := by rw [h]; simp [Value.oneCell', str]
def k41 : Kd S41 where
  sz := 8
  V x cs := cs = [.int .i64 x.f0, .int .i64 x.f1, .int .u64 x.f2, .int .u64 x.f3, .int .i64 x.f4, .int .i64 x.f5, str x.f6, str x.f7]
  len h := by rw [h]; rfl
  one h := by rw [h]; simp [Value.oneCell', str]
def obj106 (Z : Nat → Prop) (wz : World) (g : Nat) (x : S106) : HP := ex fun i : Option Addr × Nat × Nat => star [blk g 106 [.slice i.1 i.2.1 i.2.2], pure' (Imm Z wz (kI .u8) i.1 i.2.1 i.2.2 x.f0)]
theorem obj106_open {r w : World} {L : List HP} {Z : Nat → Prop} {wz : World} {g : Nat} {x : S106} (h : SH r (obj106 Z wz g x :: L) w) : ∃ A0_ n0_ c0_, SH r (blk g 106 [.slice A0_ n0_ c0_] :: pure' (Imm Z wz (kI .u8) A0_ n0_ c0_ x.f0) :: L) w := by
  obtain ⟨i, h⟩ := h.unex
  exact ⟨i.1, i.2.1, i.2.2, h.unstar⟩
theorem obj106_mk {r w : World} {L : List HP} {Z : Nat → Prop} {wz : World} {g : Nat} {x : S106} {A0_ : Option Addr} {n0_ : Nat} {c0_ : Nat} (h : SH r (blk g 106 [.slice A0_ n0_ c0_] :: pure' (Imm Z wz (kI .u8) A0_ n0_ c0_ x.f0) :: L) w) : SH r (obj106 Z wz g x :: L) w := SH.ex (A0_, n0_, c0_) (SH.star (Ls := [blk g 106 [.slice A0_ n0_ c0_], pure' (Imm Z wz (kI .u8) A0_ n0_ c0_ x.f0)]) h)
def obj83 (Z : Nat → Prop) (wz : World) (g : Nat) (x : S83) : HP := ex fun i : Option Addr × Nat × Nat × Option Addr × Nat × Nat => star [blk g 83 [.slice i.1 i.2.1 i.2.2.1, .int .i64 x.f1, .slice i.2.2.2.1 i.2.2.2.2.1 i.2.2.2.2.2], own k41 41 i.2.2.2.1 i.2.2.2.2.1 i.2.2.2.2.2 x.f2, pure' (Imm Z wz (kI .u8) i.1 i.2.1 i.2.2.1 x.f0)]
theorem obj83_open {r w : World} {L : List HP} {Z : Nat → Prop} {wz : World} {g : Nat} {x : S83} (h : SH r (obj83 Z wz g x :: L) w) : ∃ A0_ n0_ c0_ A2_ n2_ c2_, SH r (blk g 83 [.slice A0_ n0_ c0_, .int .i64 x.f1, .slice A2_ n2_ c2_] :: own k41 41 A2_ n2_ c2_ x.f2 :: pure' (Imm Z wz (kI .u8) A0_ n0_ c0_ x.f0) :: L) w := by
  obtain ⟨i, h⟩ := h.unex
  exact ⟨i.1, i.2.1, i.2.2.1, i.2.2.2.1, i.2.2.2.2.1, i.2.2.2.2.2, h.unstar⟩
theorem obj83_mk {r w : World} {L : List HP} {Z : Nat → Prop} {wz : World} {g : Nat} {x : S83} {A0_ : Option Addr} {n0_ : Nat} {c0_ : Nat} {A2_ : Option Addr} {n2_ : Nat} {c2_ : Nat} (h : SH r (blk g 83 [.slice A0_ n0_ c0_, .int .i64 x.f1, .slice A2_ n2_ c2_] :: own k41 41 A2_ n2_ c2_ x.f2 :: pure' (Imm Z wz (kI .u8) A0_ n0_ c0_ x.f0) :: L) w) : SH r (obj83 Z wz g x :: L) w := SH.ex (A0_, n0_, c0_, A2_, n2_, c2_) (SH.star (Ls := [blk g 83 [.slice A0_ n0_ c0_, .int .i64 x.f1, .slice A2_ n2_ c2_], own k41 41 A2_ n2_ c2_ x.f2, pure' (Imm Z wz (kI .u8) A0_ n0_ c0_ x.f0)]) h)
end Go.Proofs.YteodeedejjcmgaaDoor.M
namespace Go.Proofs.YteodeedejjcmgaaDoor.E
open Go Go.RowKit
set_option linter.unusedVariables false
set_option linter.unusedSimpArgs false
section
variable {P : Program} {ops : Array Oper} {Q : Exit → Act → World → Prop} {o : Oper} {a : Act} {w : World} {K K' : Act → World → Prop} {lp m : Nat}
def Oper.nodefer (o : Oper) : Bool := match o.op with
  | .defer _ => false
  | _ => true
theorem nodefer_ne {o : Oper} (h : Oper.nodefer o = true) : ∀ c, o.op ≠ .defer c := by
  intro c e
  unfold Oper.nodefer at h
  rw [e] at h
  cases h
theorem rowsIn_round {row : String} {args : Array Value} {R : Value → World → Prop} (h : Rows P row args w R) : RowsIn (Fence.wide.inRound lp) m P row args w R :=
  fun c cs _ => let ⟨v, w', r, s⟩ := h c cs; ⟨v, w', r, stepsIn_wide.2 s⟩
theorem opIn (h : o.wp P a w K Q) (hd : Oper.nodefer o = true) (hQ : ¬ LetsOut Q) (hK : ∀ a w, K a w → K' a w) : o.wpIn (Fence.wide.inRound lp) m P a w K' Q := by
  refine ⟨fun f _ => trivial, ?_⟩
  show o.uponIn _ m P a K' Q ((o.semAt (some lp) a.eval).run P w)
  rw [Oper.semAt_some lp _ _ (nodefer_ne hd)]
  unfold Oper.wp at h
  revert h
  generalize (execOp a.eval o).run P w = res
  intro h
  cases res with
  | ok nx w' =>
    cases nx with
    | value v => exact hK _ _ h
    | skip => exact hK _ _ h
    | defer d => exact hK _ _ h
    | enter f args =>
      refine ⟨fun e => (by cases e), CallsIn.inRound lp (callsIn_wide.2 (Calls.mono h ?_))⟩
      intro e w'' he
      cases e with
      | returned v => exact hK _ _ he
      | panicked ch => exact he
      | outgrown => exact he
    | row row args => exact ⟨fun e => (by cases e), RowsIn.mono (rowsIn_round h) fun v w'' => hK _ _⟩
    | _ => exact h.elim
  | halt hh w' =>
    cases hh with
    | panic v => exact h
    | _ => exact h.elim
theorem listIn (hQ : ¬ LetsOut Q) : ∀ {l : List Oper} {a : Act} {w : World}, wpList P ops Q l a w → l.all Oper.nodefer = true → wpListIn (Fence.wide.inRound lp) m P ops Q l a w
  | [], _, _, h, _ => h
  | o :: l, a, w, h, hd => by
    simp only [List.all_cons, Bool.and_eq_true] at hd
    unfold wpList at h
    unfold wpListIn
    split
    · rename_i hw
      rw [if_pos hw] at h
      rcases h with h | ⟨_, h⟩
      · exact opIn h hd.1 hQ fun a w h => listIn hQ h hd.2
      · exact (hQ h).elim
    · rename_i hw
      rw [if_neg hw] at h
      exact ⟨fun f _ => trivial, listIn hQ h hd.2⟩
theorem in_reg {id : Nat} (hQ : ¬ LetsOut Q) (hd : ops.toList.all Oper.nodefer = true) (h : wpList P ops Q ops.toList a w) : (Code.region id ops false).wpIn (Fence.wide.inRound lp) m P Q a w :=
  wpIn_region_list (listIn hQ h hd)
theorem anyIn (hQ : ¬ LetsOut Q) (hd : ops.toList.all Oper.nodefer = true) : ∀ {k : Nat} {listed : Array Bool} {a : Act} {w : World}, wpAny P .any ops Q k listed a w → wpAnyIn (Fence.wide.inRound lp) m P .any ops Q k listed a w
  | 0, _, _, _, h => h
  | k + 1, listed, a, w, h => by
    refine ⟨h.1, fun i hi => ?_⟩
    have h2 := h.2 i hi
    unfold wpOp at h2
    unfold wpOpIn
    cases ho : ops[i]? with
    | none =>
      simp only [ho] at h2 ⊢
      exact anyIn hQ hd h2
    | some o =>
      simp only [ho] at h2 ⊢
      have hdo : Oper.nodefer o = true := List.all_eq_true.1 hd o (by obtain ⟨hl, e⟩ := Array.getElem?_eq_some_iff.1 ho; rw [← e]; simp)
      split
      · rename_i hw
        rw [if_pos hw] at h2
        rcases h2 with h2 | ⟨_, h2⟩
        · exact opIn h2 hdo hQ fun a w h => anyIn hQ hd h
        · exact (hQ h2).elim
      · rename_i hw
        rw [if_neg hw] at h2
        exact ⟨fun f _ => trivial, anyIn hQ hd h2⟩
theorem in_draw {id n : Nat} {D : List Deferred} {F : List (Nat × Value)} {r : World} {L : List HP} (M effs : List Nat) (hm : P.follows .mixedOrders = true) (hA : FR n D a F) (hS : SH r L w)
    (hM : okM ops M = true) (hu : uniq ops = true) (hEs : effs.all (fun e => Nat.blt e ops.size) = true) (ht : ((List.range ops.size).all fun p => match (ops[p]?).bind (fun o : Oper => o.dst) with | none => true | some t => Nat.blt t n) = true)
    (hd : ops.toList.all Oper.nodefer = true) (hQ : ¬ LetsOut Q)
    (h : ∀ w', SH r L w' → ∃ VL, DrawOk P ops Q n D M F effs effs.length [] VL w') : (Code.region id ops true).wpIn (Fence.wide.inRound lp) m P Q a w :=
  wpIn_region_any hm (anyIn hQ hd (draw_w M effs hA hS hM hu hEs ht h))
end
section
variable {P : Program} {ops : Array Oper} {Q : Exit → Act → World → Prop} {o : Oper} {rest : List Oper} {a : Act} {w : World} {lp m n t : Nat} {D : List Deferred} {F : List (Nat × Value)} {v : Value}
theorem xi_val (hA : FR n D a F) (h : RunV P o a w v) (kk : ∀ a', FR n D a' ((t, v) :: F) → wpListIn Fence.wide m P ops Q rest a' w) (hnd : Oper.nodefer o = true) (hd : o.dst = some t) (hg : o.guard = none) (ht : Nat.blt t n = true) : wpListIn Fence.wide m P ops Q (o :: rest) a w := by
  refine wpListIn_plain hg fun K hK => ⟨fun f _ => trivial, ?_⟩
  rw [Oper.semAt_plain Fence.wide _ _ (nodefer_ne hnd), show (execOp a.eval o).run P w = _ from h]
  exact hK _ _ (kk _ (by rw [hd]; exact hA.put t v (by have := Nat.le_of_ble_eq_true ht; omega)))
theorem xi_yield {x y : Operand} {ts : Array TypeId} {l : Nat} {R : Ending → World → Prop} (hA : FR n D a F) (hY : YieldAt Fence.wide (m - 1) P l #[v] w R) (hR : ∀ e w', R e w' → e = .returned (.bool true) ∧ R (.returned (.bool true)) w')
    (kk : ∀ a' w', R (.returned (.bool true)) w' → FR n D a' ((t, .bool true) :: F) → wpListIn Fence.wide m P ops Q rest a' w')
    (ho : o.op = .call { callee := .value x, args := #[y], argTypes := ts }) (hx : ev F x = some (.func (.yield l) #[] #[])) (hy : ev F y = some v) (hd : o.dst = some t) (hg : o.guard = none) (ht : Nat.blt t n = true) : wpListIn Fence.wide m P ops Q (o :: rest) a w := by
  obtain ⟨fn, tmps, assign, body, hy', hRd⟩ := hY
  refine wpListIn_plain hg fun K hK => ⟨fun f _ => trivial, ?_⟩
  have hnd : ∀ c, o.op ≠ .defer c := fun c e => by rw [ho] at e; cases e
  have hrun : (execOp a.eval o).run P w = .ok (.round l fn tmps assign body) w := by
    unfold execOp
    rw [ho]
    simp only [resolve, hA.ev hx, Deferred.ofValue, Sem.run_bind, Sem.run_pure, Result.andThen_ok, invoke]
    have e2 : #[] ++ #[y].map a.eval = #[v] := by simp [hA.ev hy]
    simpa [hA.ev hy] using hy'
  rw [Oper.semAt_plain Fence.wide _ _ hnd, hrun]
  refine ⟨fun e => (by cases e), hRd.mono ?_⟩
  intro e w' he
  obtain ⟨rfl, he'⟩ := hR e w' he
  exact hK _ _ (kk _ _ he' (by rw [hd]; exact hA.put t _ (by have := Nat.le_of_ble_eq_true ht; omega)))
end
section
variable {P : Program} {o : Oper} {a : Act} {w : World} {x y : Operand} {s u : List UInt8}
theorem r_minS {ts : Array TypeId} (ho : o.op = .call { callee := .builtin .min, args := #[x, y], argTypes := ts }) (hx : a.eval x = str s) (hy : a.eval y = str u) : RunV P o a w (str (if (Op.bytesLess s u || s == u) = true then s else u)) :=
  r_builtin ho (by
    have e : #[x, y].map a.eval = #[str s, str u] := by simp [hx, hy]
    rw [e]
    show (do pure (.value (← Builtin.min_ ts o.type #[str s, str u])) : Sem Next).run P w = _
    rw [Sem.run_bind]
    simp only [Builtin.min_, str]
    cases h : (Op.bytesLess s u || s == u) <;> (have h' := h; simp only [Bool.or_eq_true, Bool.or_eq_false_iff] at h'; simp [Builtin.min2, Op.stringOp, asBool, h, h', ba_toList]))
theorem r_maxS {ts : Array TypeId} (ho : o.op = .call { callee := .builtin .max, args := #[x, y], argTypes := ts }) (hx : a.eval x = str s) (hy : a.eval y = str u) : RunV P o a w (str (if Op.bytesLess s u = true then u else s)) :=
  r_builtin ho (by
    have e : #[x, y].map a.eval = #[str s, str u] := by simp [hx, hy]
    rw [e]
    show (do pure (.value (← Builtin.max_ ts o.type #[str s, str u])) : Sem Next).run P w = _
    rw [Sem.run_bind]
    simp only [Builtin.max_, str]
    cases h : Op.bytesLess s u <;> simp [Builtin.max2, Op.stringOp, asBool, h, ba_toList])
end
section
variable {P : Program} {Q : Exit → Act → World → Prop} {a : Act} {w : World} {lp m : Nat}
theorem in_block_k {id : Nat} {cd : Code} (h : ∀ Kx : Act → World → Prop, (∀ a w, Q .normal a w → Kx a w) → cd.wpIn (Fence.wide.inRound lp) m P (Exit.blk id Kx Q) a w) : (Code.block id cd).wpIn (Fence.wide.inRound lp) m P Q a w := by
  refine wpIn_block (Code.wpIn_mono (fun e a w q => ?_) (h (Q .normal) fun _ _ h => h))
  cases e with
  | exit id' =>
    simp only [Exit.blk, Exit.inBlock] at q ⊢
    by_cases h : id' = id
    · subst h
      simpa using q
    · have : Nat.beq id' id = false := by
        cases hb : Nat.beq id' id
        · rfl
        · exact absurd (Nat.eq_of_beq_eq_true hb) h
      rw [this] at q
      rw [if_neg h]
      exact q
  | _ => exact q
end
def pcs {α : Type} (q : Nat) (xs : List α) : List (List α) := (List.range ((xs.length + q - 1) / q)).map fun k => (xs.drop (k * q)).take q
def pcv (A : Option Addr) (sz q m k : Nat) : Value := .slice (A.map (·.add (k * q * sz))) (min q (m - k * q)) (min q (m - k * q))
def Hands (P : Program) (f : FuncId) (sz : Nat) : Prop :=
  ∀ (l b1 b2 : Nat) (A : Option Addr) (m c q : Nat) (J : Nat → World → Prop), 1 ≤ q → q ≤ 1073741824 → m ≤ c → c ≤ maxLen → m ≤ 4611686018427387904 → (0 < m → ∃ ad, A = some ad) →
    (∀ k W, J k W → W.cell? ⟨b1, 0, none⟩ = some (.slice A m c) ∧ W.cell? ⟨b2, 0, none⟩ = some (.int .i64 (q : Nat)) ∧ J k W.drew) →
    (∀ k W, J k W → k * q < m → YieldAt Fence.wide 5 P l #[pcv A sz q m k] W fun e W' => e = .returned (.bool true) ∧ J (k + 1) W') →
    ∀ W, J 0 W → CallsIn Fence.wide 6 P f #[.func (.yield l) #[] #[], .pointer (some ⟨b1, 0, none⟩), .pointer (some ⟨b2, 0, none⟩)] W fun e W' => (∃ v, e = .returned v) ∧ J ((m + q - 1) / q) W'
def objP (g : Nat) (o : Obj) : HP where
  P w S := S g ∧ w.heap[g]? = some o
  fr h hk := ⟨h.1, (hk g h.1).trans h.2⟩
  mono h hs := ⟨hs g h.1, h.2⟩
section
variable {P : Program} {r w : World} {L : List HP} {g : Nat} {o : Obj}
theorem SH.objGet (h : SH r L w) (i : Nat) (hi : L[i]? = some (objP g o)) : w.heap[g]? = some o := by
  obtain ⟨S, hb⟩ := h.get i hi
  exact hb.2
theorem SH.objPut (h : SH r (objP g o :: L) w) (o' : Obj) : SH r (objP g o' :: L) (w.putObj g o') := by
  obtain ⟨S1, S2, h1, h2, hd, hA, hL⟩ := h.head
  have hg : g < w.heap.size := h1 g hA.1
  refine h.upd (w' := w.putObj g o') (Ls := [objP g o']) h1 h2 hd hL rfl rfl rfl (by simp) (fun k hk hn => World.putObj_heap_other (fun e => hn (e ▸ hA.1))) fun S hS _ _ => ?_
  exact ⟨S, fun _ => False, fun k hk => hk, fun k hk => hk.elim, fun k _ hk => hk, ⟨hS g hA.1, World.putObj_heap_same hg⟩, trivial⟩
theorem SH.objNew (h : SH r L w) (o : Obj) : SH r (objP w.heap.size o :: L) (w.alloc o) :=
  h.new (w' := w.alloc o) rfl rfl rfl (by simp) (fun k hk => Below.heap_alloc _ _ _ hk) (Ls := [objP w.heap.size o]) fun S hS =>
    ⟨S, fun _ => False, fun _ h => h, fun _ h => h.elim, fun _ _ h => h, ⟨hS _ (Nat.le_refl _) (by simp), World.alloc_heap_new w _⟩, trivial⟩
end
theorem pk_append : ∀ (E B : List HP) (A : HP), pk E.length (E ++ A :: B) = A :: E ++ B
  | [], B, A => rfl
  | C :: E, B, A => by
    show (match pk E.length (E ++ A :: B) with | [] => [C] | B' :: M => B' :: C :: M) = _
    rw [pk_append E B A]
    rfl
theorem SH.front {r w : World} {E B : List HP} {A : HP} (h : SH r (E ++ A :: B) w) : SH r (A :: E ++ B) w := by
  have := h.pk E.length
  rwa [pk_append] at this
theorem SH.behind {r w : World} {B : List HP} {A : HP} : ∀ {E : List HP}, SH r (A :: E ++ B) w → SH r (E ++ A :: B) w := by
  intro E h
  refine ⟨h.os, h.tape, h.output, ?_⟩
  have key : ∀ (E : List HP) (S : Nat → Prop), Sep (A :: E ++ B) w S → Sep (E ++ A :: B) w S := by
    intro E
    induction E with
    | nil => intro S h; exact h
    | cons C E ih =>
      intro S h
      obtain ⟨S1, S2, h1, h2, hd, hC, hL⟩ := Sep.swap (L := E ++ B) h
      exact ⟨S1, S2, h1, h2, hd, hC, ih S2 hL⟩
  exact key E _ h.sep
abbrev coll (D0 : Nat) : Deferred := { target := .collected D0, args := #[] }
section
variable {σ α : Type} {d : Kd α} {P : Program} {f : FuncId} {q : Nat} {xs : List α} {φ : σ → List α → Option σ} {s0 y : σ} {n : Nat} {Fr : List (Nat × Value)} {a : Act} {w r : World} {L : List HP}
  {g : Operand} {p pc : Nat} {body : Code} {b1 b2 : Nat} {A : Option Addr} {m c : Nat} {Q : Exit → Act → World → Prop}
theorem pcs_count {m q k : Nat} (hq : 1 ≤ q) : k * q < m ↔ k < (m + q - 1) / q := by
  rw [show k < (m + q - 1) / q ↔ k + 1 ≤ (m + q - 1) / q from Iff.rfl, Nat.le_div_iff_mul_le (by omega), Nat.add_mul]
  omega
theorem pcs_get {k : Nat} (hq : 1 ≤ q) (h : k * q < xs.length) : (pcs q xs)[k]? = some ((xs.drop (k * q)).take q) := by
  unfold pcs
  rw [List.getElem?_map, List.getElem?_range ((pcs_count hq).1 h)]
  rfl
theorem pcs_len : (pcs q xs).length = (xs.length + q - 1) / q := by simp [pcs]
theorem foldlM_take {l : List (List α)} (h : l.foldlM φ s0 = some y) {k : Nat} {x : List α} (hk : l[k]? = some x) {s : σ} (hs : (l.take k).foldlM φ s0 = some s) : ∃ s', φ s x = some s' ∧ (l.take (k + 1)).foldlM φ s0 = some s' := by
  obtain ⟨hlt, e⟩ := List.getElem?_eq_some_iff.1 hk
  have h1 : l = l.take k ++ x :: l.drop (k + 1) := by
    rw [← e, List.getElem_cons_drop hlt, List.take_append_drop]
  rw [h1, List.foldlM_append, hs] at h
  simp only [Option.bind_eq_bind, Option.bind_some, List.foldlM_cons] at h
  obtain ⟨s', hs', _⟩ := Option.bind_eq_some_iff.1 h
  refine ⟨s', hs', ?_⟩
  rw [List.take_add_one, hk, List.foldlM_append, hs]
  simp [hs']
theorem Imm.pieces {Z : Nat → Prop} {wz : World} (h : Imm Z wz d A m c xs) : xs.length = m ∧ m ≤ c ∧ c ≤ maxLen ∧ (0 < m → ∃ ad, A = some ad) :=
  ⟨h.ln, by rw [← h.ln]; exact h.le, h.mx, fun hm => by obtain ⟨ad, e, _⟩ := h.rd (by rw [h.ln]; exact hm); exact ⟨ad, e⟩⟩
theorem Imm.piece {Z : Nat → Prop} {wz : World} (h : Imm Z wz d A m c xs) (hq : (Nat.blt 0 q) = true) {k : Nat} (hk : k * q < m) : ∃ A' n', pcv A d.sz q m k = .slice A' n' n' ∧ Imm Z wz d A' n' n' ((xs.drop (k * q)).take q) := by
  have hq1 : 1 ≤ q := Nat.le_of_ble_eq_true hq
  refine ⟨_, _, rfl, ?_⟩
  have h1 := h.cut (l := k * q) (u := k * q + min q (m - k * q)) (by omega) (by rw [h.ln]; omega)
  obtain ⟨a1, a2, a3, a4⟩ := h1
  have e : (xs.take (k * q + min q (m - k * q))).drop (k * q) = (xs.drop (k * q)).take q := by
    rw [List.drop_take, Nat.add_sub_cancel_left]
    rcases Nat.le_total q (m - k * q) with hh | hh
    · rw [Nat.min_eq_left hh]
    · rw [Nat.min_eq_right hh, List.take_of_length_le (by rw [List.length_drop, h.ln]; exact Nat.le_refl _), List.take_of_length_le (by rw [List.length_drop, h.ln]; exact hh)]
  rw [e] at a1 a2 a4
  have hl : ((xs.drop (k * q)).take q).length = min q (m - k * q) := by rw [List.length_take, List.length_drop, h.ln]
  have hle := h.le
  have hln := h.ln
  have hmx := h.mx
  refine ⟨hl, by rw [hl]; exact Nat.le_refl _, by omega, ?_⟩
  rw [if_neg (by omega)] at a4
  exact a4
theorem wp_pieces (hH : Hands P f d.sz) (hEN : EN P f) (hq : (Nat.blt 0 q && Nat.ble q 1073741824) = true) (hφ : (pcs q xs).foldlM φ s0 = some y) (hA : FR n [] a Fr)
    (hI : xs.length = m ∧ m ≤ c ∧ c ≤ maxLen ∧ (0 < m → ∃ ad, A = some ad)) (hm2 : xs.length ≤ 4611686018427387904)
    (X : σ → List HP → Prop) (E0 : List HP) (h0 : X s0 E0) (hS : SH r (E0 ++ L) w)
    (hx1 : ∀ s E, X s E → ∃ (i j : Nat) (T1 T2 : TypeId), E[i]? = some (blk b1 T1 [.slice A m c]) ∧ E[j]? = some (blk b2 T2 [.int .i64 (q : Nat)]))
    (hround : ∀ (lp k : Nat) (s s' : σ) (E B : List HP) (a' : Act) (w' : World), k * q < m → φ s ((xs.drop (k * q)).take q) = some s' → X s E → FR n [] a' ((pc, pcv A d.sz q m k) :: (p, pcv A d.sz q m k) :: Fr) → SH r (E ++ B) w' →
      ∀ Qr : Exit → Act → World → Prop, ¬ LetsOut Qr → (∀ a'' w'' E', X s' E' → SH r (E' ++ B) w'' → Qr .normal a'' w'') → body.wpIn (Fence.wide.inRound lp) 5 P Qr a' w')
    (hdone : ∀ (D0 : Nat) (E : List HP) (a' : Act) (w' : World), X y E → FR n [coll D0] a' Fr → SH r (E ++ objP D0 (.deferred (some [])) :: L) w' → Q .normal a' w')
    {ida : Nat} {oa : Oper}
    (hg : ev Fr g = some (.func (.func f) #[] #[.pointer (some ⟨b1, 0, none⟩), .pointer (some ⟨b2, 0, none⟩)]) := by rfl) (hp : Nat.blt p n = true := by rfl) (hpc : Nat.blt pc n = true := by rfl)
    (ho : oa.op = .assign (.tmp p) := by rfl) (hod : oa.dst = some pc := by rfl) (hog : oa.guard = none := by rfl) : (Code.rangeFunc g #[p] (.region ida #[oa] false) body).wp P Q a w := by
  obtain ⟨hm, hmc, hc, hAs⟩ := hI
  have hm2 : m ≤ 4611686018427387904 := by rw [← hm]; exact hm2
  have hq1 : 1 ≤ q := by simp only [Bool.and_eq_true] at hq; exact Nat.le_of_ble_eq_true hq.1
  have hq2 : q ≤ 1073741824 := by simp only [Bool.and_eq_true] at hq; exact Nat.le_of_ble_eq_true hq.2
  have hp' : p < n := Nat.le_of_ble_eq_true hp
  have hpc' : pc < n := Nat.le_of_ble_eq_true hpc
  refine (wpIn_wide (n := 7)).1 ?_
  refine wpIn_rangeFunc ?_
  intro fn hfn
  rw [show Fence.wide.round = none from rfl]
  obtain ⟨rec, hrec⟩ : ∃ rec : LoopState → Option Code → Loop, rec = fun st pe => { state := st, pending := pe, fn, tmps := a.tmps, params := #[p], assign := .region ida #[oa] false, body, defers := w.heap.size } := ⟨_, rfl⟩
  obtain ⟨D0, hD0⟩ : ∃ D0, D0 = w.heap.size := ⟨_, rfl⟩
  obtain ⟨l, hl⟩ : ∃ l, l = w.heap.size + 1 := ⟨_, rfl⟩
  obtain ⟨W1, hW1⟩ : ∃ W1, (w.alloc (.deferred (some []))).alloc (.loop (rec .ready none)) = W1 := ⟨_, rfl⟩
  have hS1 : SH r (E0 ++ objP l (.loop (rec .ready none)) :: objP D0 (.deferred (some [])) :: L) W1 := by
    have h1 := hS.objNew (.deferred (some []))
    have h2 := SH.behind h1
    have h3 := h2.objNew (.loop (rec .ready none))
    rw [World.size_alloc, hW1] at h3
    rw [hl, hD0]
    exact SH.behind h3
  refine ⟨l, [coll D0], W1, { target := .fn (.func f) #[.pointer (some ⟨b1, 0, none⟩), .pointer (some ⟨b2, 0, none⟩)], args := #[.func (.yield l) #[] #[]] }, W1, f,
    #[.func (.yield l) #[] #[]] ++ #[.pointer (some ⟨b1, 0, none⟩), .pointer (some ⟨b2, 0, none⟩)], W1, ?_, ?_, ?_, ?_, fun _ => by omega, ?_⟩
  · rw [← hW1, hrec, hl, hD0]; exact run_enterLoop_outer _ _ _ _ _
  · simp only [resolve, hA.ev hg]
    simp [go_sem]
  · intro f' hf'; trivial
  · simp [invoke, go_sem]
    exact hEN _ _
  · have J0 : ∃ J : Nat → World → Prop, J = fun k W => ∃ s E, ((pcs q xs).take k).foldlM φ s0 = some s ∧ X s E ∧ SH r (E ++ objP l (.loop (rec .ready none)) :: objP D0 (.deferred (some [])) :: L) W := ⟨_, rfl⟩
    obtain ⟨J, hJ⟩ := J0
    refine (hH l b1 b2 A m c q J hq1 hq2 hmc hc hm2 hAs ?_ ?_ W1 ?_).mono ?_
    · intro k W hk
      rw [hJ] at hk ⊢
      obtain ⟨s, E, hf, hX, hSk⟩ := hk
      obtain ⟨i, j, T1, T2, e1, e2⟩ := hx1 s E hX
      have hi : i < E.length := (List.getElem?_eq_some_iff.1 e1).1
      have hj : j < E.length := (List.getElem?_eq_some_iff.1 e2).1
      exact ⟨hSk.cell i (by rw [List.getElem?_append_left hi]; exact e1) 0 _ rfl, hSk.cell j (by rw [List.getElem?_append_left hj]; exact e2) 0 _ rfl, s, E, hf, hX, hSk.drew⟩
    · intro k W hk hlt
      rw [hJ] at hk
      obtain ⟨s, E, hf, hX, hSk⟩ := hk
      obtain ⟨s', hs', hf'⟩ := foldlM_take hφ (pcs_get hq1 (by rw [hm]; exact hlt)) hf
      have hl1 : W.heap[l]? = some (.loop (rec .ready none)) := hSk.front.objGet 0 rfl
      have hy := run_yield (P := P) (args := #[pcv A d.sz q m k]) hl1 (by rw [hrec]; simp)
      rw [hrec] at hy
      refine ⟨fn, _, _, body, hy, roundIn_of_wpIn hfn ?_⟩
      have hA1 : FR n [] ({ tmps := ((#[p].zip #[pcv A d.sz q m k]).foldl (fun t (x : Nat × Value) => t.setIfInBounds x.1 x.2) a.tmps), defers := [] } : Act) ((p, pcv A d.sz q m k) :: Fr) := by
        have := hA.put p (pcv A d.sz q m k) hp'
        exact ⟨by simpa [Act.put] using this.size, rfl, fun t v hv => by simpa [Act.put] using this.at_ t v hv⟩
      refine in_reg (by rintro ⟨_, _, h⟩; exact h) (by simp [Oper.nodefer, ho]) ?_
      refine x_assign (v := pcv A d.sz q m k) hA1 (fun ac hA2 => ?_) ho (by show lk _ _ = _; simp [lk]) hod hog hpc
      refine wpList_nil ?_
      have hSb := hSk.front.objPut (.loop { rec .ready none with state := .busy })
      refine ⟨_, run_beginRound hl1 (by rw [hrec]), ?_⟩
      refine hround l k s s' E _ ac _ hlt hs' hX hA2 (SH.behind hSb) _ (by rintro ⟨_, _, h⟩; exact h) ?_
      intro a3 W3 E' hX' hS3
      have hl3 := hS3.front.objGet 0 rfl
      refine ⟨_, _, run_endRound none hl3, rfl, ?_⟩
      rw [hJ]
      have h4 := hS3.front.objPut (.loop { { rec .ready none with state := .busy } with state := .ready, pending := none })
      refine ⟨s', E', hf', hX', ?_⟩
      have h5 := SH.behind h4
      rw [hrec] at h5 ⊢
      exact h5
    · rw [hJ]; exact ⟨s0, E0, by simp, h0, hS1⟩
    · rintro e W2 ⟨⟨v, rfl⟩, hk⟩
      rw [hJ] at hk
      obtain ⟨s, E, hf, hX, hSk⟩ := hk
      rw [← hm, ← pcs_len, List.take_length, hφ] at hf
      cases hf
      have hl1 : W2.heap[l]? = some (.loop (rec .ready none)) := hSk.front.objGet 0 rfl
      refine ⟨none, _, by have := run_endLoop (P := P) hl1 (by rw [hrec]; simp); rw [hrec] at this; exact this, ?_⟩
      have h6 := (hSk.front.objPut (.loop { state := .exhausted, pending := none, fn := fn, tmps := a.tmps, params := #[p], assign := .region ida #[oa] false, body := body, defers := w.heap.size })).tail
      exact hdone D0 E _ _ hX ⟨hA.size, by simp [hA.defers], hA.at_⟩ h6
end
section
variable {P : Program} {f : FuncId} {fn : Func} {cd : Code} {args : Array Value} {w : World} {R : Value → World → Prop} {n : Nat}
theorem enterM (hf : P.funcs[f]? = some fn) (hb : fn.body = some cd) (hn : fn.ntmps = n)
    (F : List (Nat × Value)) (hF : F.map (fun p => args[p.1]?) = F.map fun p => some p.2) (hle : (args.size ≤ n) = True)
    (h : ∀ a, FR n [] a F → ∀ Qf : Exit → Act → World → Prop, (∀ a w, bodyPost P fn (fun e w' => ∃ v, e = .returned v ∧ R v w') .ret a w → Qf .ret a w) →
      (∀ (D0 : Nat) (F : List (Nat × Value)) (r : World) (L : List HP) a w, FR n [coll D0] a F → SH r (objP D0 (.deferred (some [])) :: L) w → (∀ a w, FR n [] a F → SH r L w → bodyPost P fn (fun e w' => ∃ v, e = .returned v ∧ R v w') .ret a w) → Qf .ret a w) → cd.wp P Qf a w) : Ret P f args w R := by
  refine (callsIn_wide (n := 8)).1 (callsIn_of_wp_marks hf hb trivial (wpIn_wide.2 (h _ ⟨?_, rfl, ?_⟩ _ ?_ ?_)))
  · have := of_eq_true hle
    simp [hn]; omega
  · intro t v hv
    clear h
    induction F with
    | nil => cases hv
    | cons p q ih =>
      obtain ⟨k, u⟩ := p
      simp only [List.map_cons, List.cons.injEq] at hF
      simp only [lk] at hv
      by_cases e : Nat.beq k t = true
      · rw [e] at hv
        have e' := Nat.eq_of_beq_eq_true e
        subst e'
        cases hv
        have hlt := (Array.getElem?_eq_some_iff.1 hF.1).1
        show (args ++ _)[k]? = _
        rw [Array.getElem?_append_left hlt]
        exact hF.1
      · rw [Bool.eq_false_iff.2 e] at hv
        exact ih hF.2 hv
  · rintro a w ⟨hd, v, hr, hR⟩
    show LeavesInM _ _ _ _ _ _ a.defers _ _
    rw [hd]
    exact ⟨v, hr, hR⟩
  · intro D0 F r L a w hA hS h
    show LeavesInM _ _ _ _ _ _ a.defers _ _
    rw [hA.defers]
    have hg := hS.objGet 0 rfl
    refine ⟨by simp, .inl ⟨D0, _, rfl, run_takeDeferred hg, ?_⟩⟩
    obtain ⟨_, v, hr, hR⟩ := h { a with defers := [] } _ ⟨hA.size, rfl, hA.at_⟩ (hS.objPut (.deferred none)).tail
    exact ⟨v, hr, hR⟩
end
end Go.Proofs.YteodeedejjcmgaaDoor.E

namespace Go.Proofs.YteodeedejjcmgaaDoor.E
open Go Go.RowKit
def mvB (n : Nat) (F : List (Nat × Value)) : Option Nat → Op → Option (Nat × Bool) → Option (Nat × Value)
  | some t, .move x, none => bif Nat.blt t n then (ev F x).map fun v => (t, v) else none
  | some t, .assign x, none => bif Nat.blt t n then (ev F x).map fun v => (t, v) else none
  | _, _, _ => none
section
variable {P : Program} {ops : Array Oper} {Q : Exit → Act → World → Prop} {o : Oper} {rest : List Oper} {a : Act} {w : World} {n t : Nat} {D : List Deferred} {F : List (Nat × Value)} {v : Value}
theorem x_m (hA : FR n D a F) (h : mvB n F o.dst o.op o.guard = some (t, v)) (kk : ∀ a', FR n D a' ((t, v) :: F) → wpList P ops Q rest a' w) : wpList P ops Q (o :: rest) a w := by
  unfold mvB at h
  split at h
  · rename_i t' x hd ho hg
    cases hb : Nat.blt t' n with
    | false => rw [hb] at h; cases h
    | true =>
      rw [hb] at h
      cases hx : ev F x with
      | none => rw [hx] at h; cases h
      | some u => rw [hx] at h; cases h; exact x_move hA kk ho hx hd hg hb
  · rename_i t' x hd ho hg
    cases hb : Nat.blt t' n with
    | false => rw [hb] at h; cases h
    | true =>
      rw [hb] at h
      cases hx : ev F x with
      | none => rw [hx] at h; cases h
      | some u => rw [hx] at h; cases h; exact x_assign hA kk ho hx hd hg hb
  · cases h
def dsB (n : Nat) : Option Nat → Option (Nat × Bool) → Option Nat
  | some t, none => bif Nat.blt t n then some t else none
  | _, _ => none
theorem x_v (hA : FR n D a F) (r : RunV P o a w v) (h : dsB n o.dst o.guard = some t) (kk : ∀ a', FR n D a' ((t, v) :: F) → wpList P ops Q rest a' w) : wpList P ops Q (o :: rest) a w := by
  unfold dsB at h
  split at h
  · rename_i t' hd hg
    cases hb : Nat.blt t' n with
    | false => rw [hb] at h; cases h
    | true => rw [hb] at h; cases h; exact x_val hA r kk hd hg hb
  · cases h
theorem wn (h : Q .normal a w) : wpList P ops Q [] a w := wpList_nil h
theorem ws {id : Nat} {c : Code} (h : ∀ K : Act → World → Prop, (∀ a w, c.wp P Q a w → K a w) → wpList P ops (Exit.then K Q) ops.toList a w) : ((Code.region id ops false).seq c).wp P Q a w :=
  wp_seq_k fun K hK => wp_reg (h K hK)
end
end Go.Proofs.YteodeedejjcmgaaDoor.E
namespace Go.Proofs.YteodeedejjcmgaaDoor.M
open Go Go.RowKit Go.Proofs.YteodeedejjcmgaaDoor.E
set_option linter.unusedVariables false
set_option linter.unusedSimpArgs false
def badC : List PanicEntry := [{ v := .iface 102 (.agg #[]), recovered := false }]
theorem by44 : Tryd.prog.bytesOf 44 = 48 := by kernel_rfl
theorem ce2 : Tryd.prog.cellsOf 2 = 1 := by kernel_rfl
theorem ce3 : Tryd.prog.cellsOf 3 = 1 := by kernel_rfl
theorem ce31 : Tryd.prog.cellsOf 31 = 1 := by kernel_rfl
theorem ce33 : Tryd.prog.cellsOf 33 = 4 := by kernel_rfl
theorem ce42 : Tryd.prog.cellsOf 42 = 1 := by kernel_rfl
theorem ce44 : Tryd.prog.cellsOf 44 = 5 := by kernel_rfl
theorem ce48 : Tryd.prog.cellsOf 48 = 1 := by kernel_rfl
theorem ce9 : Tryd.prog.cellsOf 9 = 1 := by kernel_rfl
theorem en10 : EN Tryd.prog 10 := EN_of Tryd.func10 (by kernel_rfl) rfl
theorem en101 : EN Tryd.prog 101 := EN_of Tryd.func101 (by kernel_rfl) rfl
theorem en102 : EN Tryd.prog 102 := EN_of Tryd.func102 (by kernel_rfl) rfl
theorem en11 : EN Tryd.prog 11 := EN_of Tryd.func11 (by kernel_rfl) rfl
theorem en13 : EN Tryd.prog 13 := EN_of Tryd.func13 (by kernel_rfl) rfl
theorem en14 : EN Tryd.prog 14 := EN_of Tryd.func14 (by kernel_rfl) rfl
theorem en15 : EN Tryd.prog 15 := EN_of Tryd.func15 (by kernel_rfl) rfl
theorem en16 : EN Tryd.prog 16 := EN_of Tryd.func16 (by kernel_rfl) rfl
theorem en17 : EN Tryd.prog 17 := EN_of Tryd.func17 (by kernel_rfl) rfl
theorem en23 : EN Tryd.prog 23 := EN_of Tryd.func23 (by kernel_rfl) rfl
theorem en24 : EN Tryd.prog 24 := EN_of Tryd.func24 (by kernel_rfl) rfl
theorem en25 : EN Tryd.prog 25 := EN_of Tryd.func25 (by kernel_rfl) rfl
theorem en26 : EN Tryd.prog 26 := EN_of Tryd.func26 (by kernel_rfl) rfl
theorem en27 : EN Tryd.prog 27 := EN_of Tryd.func27 (by kernel_rfl) rfl
theorem en28 : EN Tryd.prog 28 := EN_of Tryd.func28 (by kernel_rfl) rfl
theorem en29 : EN Tryd.prog 29 := EN_of Tryd.func29 (by kernel_rfl) rfl
theorem en30 : EN Tryd.prog 30 := EN_of Tryd.func30 (by kernel_rfl) rfl
theorem en31 : EN Tryd.prog 31 := EN_of Tryd.func31 (by kernel_rfl) rfl
theorem en37 : EN Tryd.prog 37 := EN_of Tryd.func37 (by kernel_rfl) rfl
theorem en38 : EN Tryd.prog 38 := EN_of Tryd.func38 (by kernel_rfl) rfl
theorem en39 : EN Tryd.prog 39 := EN_of Tryd.func39 (by kernel_rfl) rfl
theorem en40 : EN Tryd.prog 40 := EN_of Tryd.func40 (by kernel_rfl) rfl
theorem en41 : EN Tryd.prog 41 := EN_of Tryd.func41 (by kernel_rfl) rfl
theorem en44 : EN Tryd.prog 44 := EN_of Tryd.func44 (by kernel_rfl) rfl
theorem en45 : EN Tryd.prog 45 := EN_of Tryd.func45 (by kernel_rfl) rfl
theorem en46 : EN Tryd.prog 46 := EN_of Tryd.func46 (by kernel_rfl) rfl
theorem en47 : EN Tryd.prog 47 := EN_of Tryd.func47 (by kernel_rfl) rfl
theorem en48 : EN Tryd.prog 48 := EN_of Tryd.func48 (by kernel_rfl) rfl
theorem en49 : EN Tryd.prog 49 := EN_of Tryd.func49 (by kernel_rfl) rfl
theorem en50 : EN Tryd.prog 50 := EN_of Tryd.func50 (by kernel_rfl) rfl
theorem en56 : EN Tryd.prog 56 := EN_of Tryd.func56 (by kernel_rfl) rfl
theorem en57 : EN Tryd.prog 57 := EN_of Tryd.func57 (by kernel_rfl) rfl
theorem en58 : EN Tryd.prog 58 := EN_of Tryd.func58 (by kernel_rfl) rfl
theorem en59 : EN Tryd.prog 59 := EN_of Tryd.func59 (by kernel_rfl) rfl
theorem en60 : EN Tryd.prog 60 := EN_of Tryd.func60 (by kernel_rfl) rfl
theorem en61 : EN Tryd.prog 61 := EN_of Tryd.func61 (by kernel_rfl) rfl
theorem en68 : EN Tryd.prog 68 := EN_of Tryd.func68 (by kernel_rfl) rfl
theorem en69 : EN Tryd.prog 69 := EN_of Tryd.func69 (by kernel_rfl) rfl
theorem en70 : EN Tryd.prog 70 := EN_of Tryd.func70 (by kernel_rfl) rfl
theorem en71 : EN Tryd.prog 71 := EN_of Tryd.func71 (by kernel_rfl) rfl
theorem en72 : EN Tryd.prog 72 := EN_of Tryd.func72 (by kernel_rfl) rfl
theorem en73 : EN Tryd.prog 73 := EN_of Tryd.func73 (by kernel_rfl) rfl
theorem en76 : EN Tryd.prog 76 := EN_of Tryd.func76 (by kernel_rfl) rfl
theorem en83 : EN Tryd.prog 83 := EN_of Tryd.func83 (by kernel_rfl) rfl
theorem en87 : EN Tryd.prog 87 := EN_of Tryd.func87 (by kernel_rfl) rfl
theorem en88 : EN Tryd.prog 88 := EN_of Tryd.func88 (by kernel_rfl) rfl
theorem en90 : EN Tryd.prog 90 := EN_of Tryd.func90 (by kernel_rfl) rfl
theorem en96 : EN Tryd.prog 96 := EN_of Tryd.func96 (by kernel_rfl) rfl
theorem en97 : EN Tryd.prog 97 := EN_of Tryd.func97 (by kernel_rfl) rfl
theorem ex89 (b : Nat) : EXT Tryd.prog 89 #[.float .f64 b] (.int .u64 b) := fun w => by kernel_rfl
theorem ex95 (n : Int) : EXT Tryd.prog 95 #[.int .u64 n] (.float .f64 n.toNat) := fun w => by kernel_rfl
theorem fa106_0 : FA Tryd.prog 106 0 0 := fun ad w => by kernel_rfl
theorem fa33_0 : FA Tryd.prog 33 0 0 := fun ad w => by kernel_rfl
theorem fa33_1 : FA Tryd.prog 33 1 1 := fun ad w => by kernel_rfl
theorem fa33_2 : FA Tryd.prog 33 2 2 := fun ad w => by kernel_rfl
theorem fa33_3 : FA Tryd.prog 33 3 3 := fun ad w => by kernel_rfl
theorem fa41_0 : FA Tryd.prog 41 0 0 := fun ad w => by kernel_rfl
theorem fa41_1 : FA Tryd.prog 41 1 1 := fun ad w => by kernel_rfl
theorem fa41_2 : FA Tryd.prog 41 2 2 := fun ad w => by kernel_rfl
theorem fa41_3 : FA Tryd.prog 41 3 3 := fun ad w => by kernel_rfl
theorem fa41_4 : FA Tryd.prog 41 4 4 := fun ad w => by kernel_rfl
theorem fa41_5 : FA Tryd.prog 41 5 5 := fun ad w => by kernel_rfl
theorem fa41_6 : FA Tryd.prog 41 6 6 := fun ad w => by kernel_rfl
theorem fa41_7 : FA Tryd.prog 41 7 7 := fun ad w => by kernel_rfl
theorem fa44_0 : FA Tryd.prog 44 0 0 := fun ad w => by kernel_rfl
theorem fa44_1 : FA Tryd.prog 44 1 1 := fun ad w => by kernel_rfl
theorem fa44_2 : FA Tryd.prog 44 2 2 := fun ad w => by kernel_rfl
theorem fa44_3 : FA Tryd.prog 44 3 3 := fun ad w => by kernel_rfl
theorem fa44_4 : FA Tryd.prog 44 4 4 := fun ad w => by kernel_rfl
theorem fa83_0 : FA Tryd.prog 83 0 0 := fun ad w => by kernel_rfl
theorem fa83_1 : FA Tryd.prog 83 1 1 := fun ad w => by kernel_rfl
theorem fa83_2 : FA Tryd.prog 83 2 2 := fun ad w => by kernel_rfl
theorem inf2 : (Tryd.prog.info? 2).map (fun i => (i.zero, i.size, i.bytes)) = some (some (.int .i64 0), 1, 8) := by kernel_rfl
theorem inf41 : (Tryd.prog.info? 41).map (fun i => (i.zero, i.size, i.bytes)) = some (some (.agg #[(.int .i64 0), (.int .i64 0), (.int .u64 0), (.int .u64 0), (.int .i64 0), (.int .i64 0), (str []), (str [])]), 8, 80) := by kernel_rfl
theorem inf42 : (Tryd.prog.info? 42).map (fun i => (i.zero, i.size, i.bytes)) = some (some (.float .f64 0), 1, 8) := by kernel_rfl
theorem inf44 : (Tryd.prog.info? 44).map (fun i => (i.zero, i.size, i.bytes)) = some (some (.agg #[(.int .u64 0), (.int .i64 0), (.int .i64 0), (str []), (.float .f64 0)]), 5, 48) := by kernel_rfl
theorem inf5 : (Tryd.prog.info? 5).map (fun i => (i.zero, i.size, i.bytes)) = some (some (.int .u8 0), 1, 1) := by kernel_rfl
theorem inf9 : (Tryd.prog.info? 9).map (fun i => (i.zero, i.size, i.bytes)) = some (some (str []), 1, 16) := by kernel_rfl
theorem sz102 : (Tryd.prog.info? 102).map (·.size) = some 0 := by kernel_rfl
theorem sz2 : (Tryd.prog.info? 2).map (·.size) = some 1 := by kernel_rfl
theorem sz24 : (Tryd.prog.info? 24).map (·.size) = some 1 := by kernel_rfl
theorem sz3 : (Tryd.prog.info? 3).map (·.size) = some 1 := by kernel_rfl
theorem sz31 : (Tryd.prog.info? 31).map (·.size) = some 1 := by kernel_rfl
theorem sz33 : (Tryd.prog.info? 33).map (·.size) = some 4 := by kernel_rfl
theorem sz38 : (Tryd.prog.info? 38).map (·.size) = some 1 := by kernel_rfl
theorem sz4 : (Tryd.prog.info? 4).map (·.size) = some 1 := by kernel_rfl
theorem sz41 : (Tryd.prog.info? 41).map (·.size) = some 8 := by kernel_rfl
theorem sz42 : (Tryd.prog.info? 42).map (·.size) = some 1 := by kernel_rfl
theorem sz44 : (Tryd.prog.info? 44).map (·.size) = some 5 := by kernel_rfl
theorem sz48 : (Tryd.prog.info? 48).map (·.size) = some 1 := by kernel_rfl
theorem sz5 : (Tryd.prog.info? 5).map (·.size) = some 1 := by kernel_rfl
theorem sz9 : (Tryd.prog.info? 9).map (·.size) = some 1 := by kernel_rfl
theorem zr102 : (Tryd.prog.info? 102).bind (·.zero) = some (.agg #[]) := by kernel_rfl
theorem zr24 : (Tryd.prog.info? 24).bind (·.zero) = some (.slice none 0 0) := by kernel_rfl
theorem zr38 : (Tryd.prog.info? 38).bind (·.zero) = some (.slice none 0 0) := by kernel_rfl
theorem zr4 : (Tryd.prog.info? 4).bind (·.zero) = some (.bool false) := by kernel_rfl
theorem zr41 : (Tryd.prog.info? 41).bind (·.zero) = some (.agg #[(.int .i64 0), (.int .i64 0), (.int .u64 0), (.int .u64 0), (.int .i64 0), (.int .i64 0), (str []), (str [])]) := by kernel_rfl
theorem zr44 : (Tryd.prog.info? 44).bind (·.zero) = some (.agg #[(.int .u64 0), (.int .i64 0), (.int .i64 0), (str []), (.float .f64 0)]) := by kernel_rfl
end Go.Proofs.YteodeedejjcmgaaDoor.M
namespace Go.Proofs.YteodeedejjcmgaaDoor.M
open Go Go.RowKit Go.Proofs.YteodeedejjcmgaaDoor.E
set_option linter.unusedVariables false
set_option linter.unusedSimpArgs false
def g33 (x : S33) : Prop := (gI .u64) x.f0 ∧ (gI .u64) x.f1 ∧ (gI .i64) x.f2 ∧ (gI .i64) x.f3
set_option maxRecDepth 100000 in
theorem op33 {W : World} : Opens Tryd.prog W 33 k33 g33 := by
  intro H enc held fuel cs x h hw
  obtain ⟨ys, n, _, rfl, hl, hyl, hf⟩ := DataW.trod_struct Tryd.underlying33 h
  rw [ce33] at hl
  match cs, hl with
  | [c0, c1, c2, c3], _ =>
    obtain ⟨a0, h0, q0⟩ := fld Tryd.underlying33 hf hyl hw 0 rfl (o := 0) (c := 1) (t := 31) rfl rfl ce31 (opI Tryd.underlying31)
    cases (show [c0] = [.int .u64 a0] from h0)
    obtain ⟨a1, h1, q1⟩ := fld Tryd.underlying33 hf hyl hw 1 rfl (o := 1) (c := 1) (t := 31) rfl rfl ce31 (opI Tryd.underlying31)
    cases (show [c1] = [.int .u64 a1] from h1)
    obtain ⟨a2, h2, q2⟩ := fld Tryd.underlying33 hf hyl hw 2 rfl (o := 2) (c := 1) (t := 2) rfl rfl ce2 (opI Tryd.underlying2)
    cases (show [c2] = [.int .i64 a2] from h2)
    obtain ⟨a3, h3, q3⟩ := fld Tryd.underlying33 hf hyl hw 3 rfl (o := 3) (c := 1) (t := 2) rfl rfl ce2 (opI Tryd.underlying2)
    cases (show [c3] = [.int .i64 a3] from h3)
    exact ⟨⟨a0, a1, a2, a3⟩, rfl, q0, q1, q2, q3⟩
def g44 (x : S44) : Prop := (gI .u64) x.f0 ∧ (gI .i64) x.f1 ∧ (gI .i64) x.f2 ∧ gS x.f3 ∧ gF x.f4
set_option maxRecDepth 100000 in
theorem op44 {W : World} : Opens Tryd.prog W 44 k44 g44 := by
  intro H enc held fuel cs x h hw
  obtain ⟨ys, n, _, rfl, hl, hyl, hf⟩ := DataW.trod_struct Tryd.underlying44 h
  rw [ce44] at hl
  match cs, hl with
  | [c0, c1, c2, c3, c4], _ =>
    obtain ⟨a0, h0, q0⟩ := fld Tryd.underlying44 hf hyl hw 0 rfl (o := 0) (c := 1) (t := 31) rfl rfl ce31 (opI Tryd.underlying31)
    cases (show [c0] = [.int .u64 a0] from h0)
    obtain ⟨a1, h1, q1⟩ := fld Tryd.underlying44 hf hyl hw 1 rfl (o := 1) (c := 1) (t := 3) rfl rfl ce3 (opI Tryd.underlying3)
    cases (show [c1] = [.int .i64 a1] from h1)
    obtain ⟨a2, h2, q2⟩ := fld Tryd.underlying44 hf hyl hw 2 rfl (o := 2) (c := 1) (t := 2) rfl rfl ce2 (opI Tryd.underlying2)
    cases (show [c2] = [.int .i64 a2] from h2)
    obtain ⟨a3, h3, q3⟩ := fld Tryd.underlying44 hf hyl hw 3 rfl (o := 3) (c := 1) (t := 9) rfl rfl ce9 (opS Tryd.underlying9)
    cases (show [c3] = [str a3] from h3)
    obtain ⟨a4, h4, q4⟩ := fld Tryd.underlying44 hf hyl hw 4 rfl (o := 4) (c := 1) (t := 42) rfl rfl ce42 (opF Tryd.underlying42)
    cases (show [c4] = [.float .f64 a4] from h4)
    exact ⟨⟨a0, a1, a2, a3, a4⟩, rfl, q0, q1, q2, q3, q4⟩
end Go.Proofs.YteodeedejjcmgaaDoor.M
namespace Go.Proofs.YteodeedejjcmgaaDoor.M
open Go Go.RowKit Go.Proofs.YteodeedejjcmgaaDoor.E
set_option linter.unusedVariables false
set_option linter.unusedSimpArgs false
noncomputable def page_Sum_b1 (x476 : Int) : Option (Int) :=
  some (ixor .u32 (IntKind.u32.max) x476)
noncomputable def page_Sum_x1_0 (x560 : Int) : Option (Int) :=
  page_Sum_b1 x560
noncomputable def page_Sum_l1 (a0 : (List Int)) (x518 : Int) (x519 : Int) : Option ((Int × Int) ⊕ ((Int))) :=
  if (decide (x519 < (a0.length : Int))) = true then ((at_ a0 x519).bind fun x568 => (ltt (IntKind.u32.wrap x568) fun x572 => (ltt (ixor .u32 x518 x572) fun x574 => (ltt (iand .u32 x574 15) fun x576 => ((at_ gl_page_table x576).bind fun x578 => (ltt (ishr .u32 x518 4) fun x581 => (ltt (ixor .u32 x578 x581) fun x583 => (ltt (ishr .u32 x572 4) fun x585 => (ltt (ixor .u32 x583 x585) fun x587 => (ltt (iand .u32 x587 15) fun x589 => ((at_ gl_page_table x589).bind fun x591 => (ltt (ishr .u32 x583 4) fun x594 => (ltt (ixor .u32 x591 x594) fun x596 => (ltt (IntKind.i64.wrap (x519 + 1)) fun x598 => (some (.inl (x596, x598))))))))))))))))) else (some (.inr (x518)))
noncomputable def page_Sum (a0 : (List Int)) : Option (Int) :=
  (loop (fun s => page_Sum_l1 a0 s.1 s.2) (4294967295, 0)).bind fun t => page_Sum_x1_0 t
noncomputable def page_number (a0 : (List Int)) : Option (Int) :=
  (at_ a0 0).bind fun x103 => (ltt (IntKind.u32.wrap x103) fun x106 => ((at_ a0 1).bind fun x108 => (ltt (IntKind.u32.wrap x108) fun x111 => (ltt (ishl .u32 x111 8) fun x113 => (ltt (ior .u32 x106 x113) fun x115 => ((at_ a0 2).bind fun x117 => (ltt (IntKind.u32.wrap x117) fun x120 => (ltt (ishl .u32 x120 16) fun x122 => (ltt (ior .u32 x115 x122) fun x124 => ((at_ a0 3).bind fun x126 => (ltt (IntKind.u32.wrap x126) fun x129 => (ltt (ishl .u32 x129 24) fun x131 => (ltt (ior .u32 x124 x131) fun x133 => (some x133))))))))))))))
noncomputable def slices_Clone_byte_byte (a0 : (List Int)) : Option ((List Int)) :=
  nilsplit (a0).isEmpty (some []) (chk (([] : List Int).length + a0.length ≤ 140737488355328 / 1) (some a0))
noncomputable def page_Read_j2 (a1 : Int) (l109 : (List Int)) (y121 : (Int)) (b130 : Bool) : Option (Int × (List Int) × Int × Int) :=
  if b130 = true then (some (0, [], 0, 3)) else (ltt (IntKind.i64.wrap y121) fun x134 => (ltt (IntKind.i64.wrap (5 + x134)) fun x136 => ((cut_ l109 0 x136).bind fun l140 => ((cut_ l109 x136 (l109.length : Int)).bind fun l147 => ((page_Sum l140).bind fun y154 => ((page_number l147).bind fun y156 => (if (y154 != y156) = true then (some (0, [], 0, 4)) else ((at_ l109 4).bind fun x161 => ((cut_ l109 5 x136).bind fun l164 => (ltt (IntKind.i64.wrap (a1 + x136)) fun x171 => (ltt (IntKind.i64.wrap (x171 + 4)) fun x173 => ((slices_Clone_byte_byte l164).bind fun y175 => (some (x161, y175, x173, 0))))))))))))))
noncomputable def page_Read_j1 (a0 : (List Int)) (a1 : Int) (b105 : Bool) : Option (Int × (List Int) × Int × Int) :=
  if b105 = true then (some (0, [], 0, 1)) else ((cut_ a0 a1 (a0.length : Int)).bind fun l109 => (if (decide ((l109.length : Int) < 9)) = true then (some (0, [], 0, 3)) else ((page_number l109).bind fun y121 => (if (decide (1048576 < y121)) = true then (page_Read_j2 a1 l109 y121 true) else (ltt (IntKind.i64.wrap y121) fun x182 => (ltt (IntKind.i64.wrap ((l109.length : Int) - 9)) fun x184 => (page_Read_j2 a1 l109 y121 (decide (x184 < x182)))))))))
noncomputable def page_Read (a0 : (List Int)) (a1 : Int) : Option (Int × (List Int) × Int × Int) :=
  if (decide (a1 < 0)) = true then (page_Read_j1 a0 a1 true) else (page_Read_j1 a0 a1 (decide ((a0.length : Int) < a1)))
end Go.Proofs.YteodeedejjcmgaaDoor.M
namespace Go.Proofs.YteodeedejjcmgaaDoor.M
open Go Go.RowKit Go.Proofs.YteodeedejjcmgaaDoor.E
set_option linter.unusedVariables false
set_option maxRecDepth 100000
set_option maxHeartbeats 4000000
set_option linter.unusedSimpArgs false
theorem F_page_Sum {r : World} {L : List HP} {w : World} {Z : Nat → Prop} {wz : World} (a0 : (List Int)) (A0 : Option Addr) (n0 : Nat) (c0 : Nat) {y : (Int)} (hF : page_Sum a0 = some y) (qz : Nat) (hZ : L[qz]? = some (zone Z wz)) (ha0 : RdL L (kI .u8) A0 n0 c0 a0) (hG0 : Imm Z wz (kI .u32) (some ⟨0, 0, none⟩) 16 16 gl_page_table) (hS : SH r (L) w) :
  Ret Tryd.prog 50 #[.slice A0 n0 c0] w fun v w' => v = .int .u32 y ∧ SH r (L) w' := by
 refine enter Tryd.func50 rfl Tryd.ntmps50 [(0, .slice A0 n0 c0)] rfl (by simp) ?_
 intro ac hA Qf hQ hQn
 unfold page_Sum at hF
 refine ws fun K101 hK101 => ?_
 refine x_m hA rfl fun ac hA => ?_
 refine wn (hK101 _ _ ?_)
 refine ws fun K102 hK102 => ?_
 refine x_m hA rfl fun ac hA => ?_
 refine wn (hK102 _ _ ?_)
 refine wp_seq_k fun K103 hK103 => ?_
 refine ws fun K352 hK352 => ?_
 refine x_m hA rfl fun ac hA => ?_
 refine x_len Tryd.underlying24 (hS.rdl 0 ha0 rfl).2.1 hA (fun ac hA => ?_) rfl rfl rfl rfl rfl
 refine x_m hA rfl fun ac hA => ?_
 refine wn (hK352 _ _ ?_)
 refine wp_block_k fun Kx353 hKx353 => ?_
 have hb1 : ∀ (x476 : Int), page_Sum_b1 x476 = some y → ∀ (ac : Act) (w : World), FR 36 [] ac [(3, .int .u32 x476)] → SH r (L) w → Kx353 ac w := by
  intro x476 hF ac w hA hS
  unfold page_Sum_b1 at hF
  refine hKx353 _ _ ?_
  refine hK103 _ _ ?_
  refine ws fun K477 hK477 => ?_
  refine x_m hA rfl fun ac hA => ?_
  refine x_v hA (r_compl rfl (hA.ev rfl)) rfl fun ac hA => ?_
  refine x_m hA rfl fun ac hA => ?_
  refine wn (hK477 _ _ ?_)
  refine wp_ret ?_
  cases hF
  refine hQ _ _ ?_
  refine lv Tryd.results50 hA rfl ?_
  exact ⟨rfl, hS⟩
 obtain ⟨t560, hl560, hF⟩ := bnd hF
 have hx560_0 : ∀ (x560 : Int), (x560) = t560 → ∀ (ac : Act) (w : World), FR 36 [] ac [(3, .int .u32 x560)] → SH r (L) w → Kx353 ac w := by
  intro x560 ht ac w hA hS
  subst ht
  replace hF : page_Sum_x1_0 x560 = some y := hF
  unfold page_Sum_x1_0 at hF
  exact hb1 x560 hF ac w (hA.sub _ rfl) hS
 refine wp_loop_fn hl560 (fun s ac w => FR 36 [] ac [(3, .int .u32 s.1), (6, .slice A0 n0 c0), (7, .int .i64 (a0.length : Int)), (8, .int .i64 s.2)] ∧ SH r (L) w) ⟨hA.sub _ rfl, hS⟩ ?_
 intro N560 s560 o560 hF N560_ T560_ ac w hLab
 obtain ⟨x518, x519⟩ := s560
 replace hF : page_Sum_l1 a0 x518 x519 = some o560 := hF
 unfold page_Sum_l1 at hF
 try dsimp only at hLab
 obtain ⟨hA, hS⟩ := hLab
 refine ws fun K562 hK562 => ?_
 refine x_v hA (r_ltI rfl (hA.ev rfl) (hA.ev rfl)) rfl fun ac hA => ?_
 refine wn (hK562 _ _ ?_)
 refine wp_seq_k fun K563 hK563 => ?_
 refine c_if hA rfl (fun hb564 => ?_) fun hb564 => ?_
 ·replace hF := ift hb564 hF
  refine wp_skip ?_
  refine hK563 _ _ ?_
  refine wp_seq_k fun K565 hK565 => ?_
  refine wp_block_k fun Kx566 hKx566 => ?_
  refine ws fun K567 hK567 => ?_
  obtain ⟨x568, h569, hF⟩ := bnd hF
  refine x_ia Tryd.underlying24 sz5 (hS.rdl 0 ha0 rfl) h569 hA (fun ac hA => ?_) rfl rfl rfl rfl rfl rfl
  obtain ⟨cs, hV, hc570⟩ := el (hS.rdl 0 ha0 rfl) h569
  obtain rfl := hV
  refine x_ld Tryd.underlying5 (hc570 0 _ rfl) hA (fun ac hA => ?_) rfl rfl rfl rfl rfl rfl
  refine x_m hA rfl fun ac hA => ?_
  refine wn (hK567 _ _ ?_)
  refine ws fun K571 hK571 => ?_
  refine x_m hA rfl fun ac hA => ?_
  refine x_m hA rfl fun ac hA => ?_
  obtain ⟨x572, h573, hF⟩ := ltt_ hF
  refine x_v (v := .int .u32 x572) hA (rv_i h573 (r_convI Tryd.underlying5 Tryd.underlying48 rfl (hA.ev rfl))) rfl fun ac hA => ?_
  obtain ⟨x574, h575, hF⟩ := ltt_ hF
  refine x_v (v := .int .u32 x574) hA (rv_i h575 (r_xor rfl (hA.ev rfl) (hA.ev rfl))) rfl fun ac hA => ?_
  obtain ⟨x576, h577, hF⟩ := ltt_ hF
  refine x_v (v := .int .u32 x576) hA (rv_i h577 (r_and rfl (hA.ev rfl) (hA.ev rfl))) rfl fun ac hA => ?_
  obtain ⟨x578, h579, hF⟩ := bnd hF
  refine x_iaA Tryd.underlying130 sz48 (hS.rdl 0 (hG0.rdl qz hZ) rfl) h579 hA (fun ac hA => ?_) rfl rfl rfl rfl rfl rfl
  obtain ⟨cs, hV, hc580⟩ := el (hS.rdl 0 (hG0.rdl qz hZ) rfl) h579
  obtain rfl := hV
  refine x_ld Tryd.underlying48 (hc580 0 _ rfl) hA (fun ac hA => ?_) rfl rfl rfl rfl rfl rfl
  refine x_m hA rfl fun ac hA => ?_
  obtain ⟨x581, h582, hF⟩ := ltt_ hF
  refine x_v (v := .int .u32 x581) hA (rv_i h582 (r_shr rfl (hA.ev rfl) (hA.ev rfl) (by decide))) rfl fun ac hA => ?_
  obtain ⟨x583, h584, hF⟩ := ltt_ hF
  refine x_v (v := .int .u32 x583) hA (rv_i h584 (r_xor rfl (hA.ev rfl) (hA.ev rfl))) rfl fun ac hA => ?_
  refine x_m hA rfl fun ac hA => ?_
  refine wn (hK571 _ _ ?_)
  refine wp_reg ?_
  refine x_m hA rfl fun ac hA => ?_
  refine x_m hA rfl fun ac hA => ?_
  refine x_v (v := .int .u32 x572) hA (rv_i h573 (r_convI Tryd.underlying5 Tryd.underlying48 rfl (hA.ev rfl))) rfl fun ac hA => ?_
  obtain ⟨x585, h586, hF⟩ := ltt_ hF
  refine x_v (v := .int .u32 x585) hA (rv_i h586 (r_shr rfl (hA.ev rfl) (hA.ev rfl) (by decide))) rfl fun ac hA => ?_
  obtain ⟨x587, h588, hF⟩ := ltt_ hF
  refine x_v (v := .int .u32 x587) hA (rv_i h588 (r_xor rfl (hA.ev rfl) (hA.ev rfl))) rfl fun ac hA => ?_
  obtain ⟨x589, h590, hF⟩ := ltt_ hF
  refine x_v (v := .int .u32 x589) hA (rv_i h590 (r_and rfl (hA.ev rfl) (hA.ev rfl))) rfl fun ac hA => ?_
  obtain ⟨x591, h592, hF⟩ := bnd hF
  refine x_iaA Tryd.underlying130 sz48 (hS.rdl 0 (hG0.rdl qz hZ) rfl) h592 hA (fun ac hA => ?_) rfl rfl rfl rfl rfl rfl
  obtain ⟨cs, hV, hc593⟩ := el (hS.rdl 0 (hG0.rdl qz hZ) rfl) h592
  obtain rfl := hV
  refine x_ld Tryd.underlying48 (hc593 0 _ rfl) hA (fun ac hA => ?_) rfl rfl rfl rfl rfl rfl
  refine x_m hA rfl fun ac hA => ?_
  obtain ⟨x594, h595, hF⟩ := ltt_ hF
  refine x_v (v := .int .u32 x594) hA (rv_i h595 (r_shr rfl (hA.ev rfl) (hA.ev rfl) (by decide))) rfl fun ac hA => ?_
  obtain ⟨x596, h597, hF⟩ := ltt_ hF
  refine x_v (v := .int .u32 x596) hA (rv_i h597 (r_xor rfl (hA.ev rfl) (hA.ev rfl))) rfl fun ac hA => ?_
  refine x_m hA rfl fun ac hA => ?_
  refine wpList_nil ?_
  refine hKx566 _ _ ?_
  refine hK565 _ _ ?_
  refine wp_reg ?_
  obtain ⟨x598, h599, hF⟩ := ltt_ hF
  refine x_v (v := .int .i64 x598) hA (rv_i h599 (r_add rfl (hA.ev rfl) (hA.ev rfl))) rfl fun ac hA => ?_
  refine x_m hA rfl fun ac hA => ?_
  refine wpList_nil ?_
  cases hF
  exact ⟨_, N560_ _ rfl, hA.sub _ rfl, hS⟩
 replace hF := iff' hb564 hF
 refine wp_exit ?_
 cases hF
 exact hx560_0 x518 (T560_ _ rfl) ac w (hA.sub _ rfl) hS
theorem F_page_number {r : World} {L : List HP} {w : World} (a0 : (List Int)) (A0 : Option Addr) (n0 : Nat) (c0 : Nat) {y : (Int)} (hF : page_number a0 = some y) (ha0 : RdL L (kI .u8) A0 n0 c0 a0) (hS : SH r (L) w) :
  Ret Tryd.prog 56 #[.slice A0 n0 c0] w fun v w' => v = .int .u32 y ∧ SH r (L) w' := by
 refine enter Tryd.func56 rfl Tryd.ntmps56 [(0, .slice A0 n0 c0)] rfl (by simp) ?_
 intro ac hA Qf hQ hQn
 unfold page_number at hF
 refine ws fun K101 hK101 => ?_
 refine x_m hA rfl fun ac hA => ?_
 refine wn (hK101 _ _ ?_)
 refine wp_seq_k fun K102 hK102 => ?_
 refine wp_draw [0, 1, 3, 7, 0, 16, 48, 112, 240, 511, 0, 1024, 3072, 7168, 15360, 32767, 0, 65536, 196608, 458752, 983040, 2097151, 4194303] [] rfl hA hS (by kernel_rfl) (by kernel_rfl) (by kernel_rfl) (by kernel_rfl) fun w hS => ?_
 obtain ⟨x103, h104, hF⟩ := bnd hF
 obtain ⟨cs, hV, hc105⟩ := el (hS.rdl 0 ha0 rfl) h104
 obtain rfl := hV
 obtain ⟨x106, h107, hF⟩ := ltt_ hF
 obtain ⟨x108, h109, hF⟩ := bnd hF
 obtain ⟨cs, hV, hc110⟩ := el (hS.rdl 0 ha0 rfl) h109
 obtain rfl := hV
 obtain ⟨x111, h112, hF⟩ := ltt_ hF
 obtain ⟨x113, h114, hF⟩ := ltt_ hF
 obtain ⟨x115, h116, hF⟩ := ltt_ hF
 obtain ⟨x117, h118, hF⟩ := bnd hF
 obtain ⟨cs, hV, hc119⟩ := el (hS.rdl 0 ha0 rfl) h118
 obtain rfl := hV
 obtain ⟨x120, h121, hF⟩ := ltt_ hF
 obtain ⟨x122, h123, hF⟩ := ltt_ hF
 obtain ⟨x124, h125, hF⟩ := ltt_ hF
 obtain ⟨x126, h127, hF⟩ := bnd hF
 obtain ⟨cs, hV, hc128⟩ := el (hS.rdl 0 ha0 rfl) h127
 obtain rfl := hV
 obtain ⟨x129, h130, hF⟩ := ltt_ hF
 obtain ⟨x131, h132, hF⟩ := ltt_ hF
 obtain ⟨x133, h134, hF⟩ := ltt_ hF
 refine ⟨[(0, .slice A0 n0 c0), (1, .pointer (some (ea A0 ((0 : Int).toNat * 1)))), (2, .int .u8 x103), (3, .int .u32 x106), (4, .slice A0 n0 c0), (5, .pointer (some (ea A0 ((1 : Int).toNat * 1)))), (6, .int .u8 x108), (7, .int .u32 x111), (8, .int .u32 x113), (9, .int .u32 x115), (10, .slice A0 n0 c0), (11, .pointer (some (ea A0 ((2 : Int).toNat * 1)))), (12, .int .u8 x117), (13, .int .u32 x120), (14, .int .u32 x122), (15, .int .u32 x124), (16, .slice A0 n0 c0), (17, .pointer (some (ea A0 ((3 : Int).toNat * 1)))), (18, .int .u8 x126), (19, .int .u32 x129), (20, .int .u32 x131), (21, .int .u32 x133), (22, .int .u32 x133)], ?_⟩
 refine dEnd [0, 1, 2, 3, 4, 5, 6, 7, 8, 9, 10, 11, 12, 13, 14, 15, 16, 17, 18, 19, 20, 21, 22] (by kernel_rfl) ⟨pu rfl rfl [(0, .slice A0 n0 c0)] (fun ac hA => y_move hA rfl rfl) rfl rfl, pu rfl rfl [(3, .slice A0 n0 c0)] (fun ac hA => y_ia Tryd.underlying24 sz5 (hS.rdl 0 ha0 rfl) h104 hA rfl rfl rfl) rfl rfl, pu rfl rfl [(4, .pointer (some (ea A0 ((0 : Int).toNat * 1))))] (fun ac hA => y_ld Tryd.underlying5 (hc105 0 _ rfl) hA rfl rfl rfl) rfl rfl, pu rfl rfl [(5, .int .u8 x103)] (fun ac hA => (rv_i h107 (r_convI Tryd.underlying5 Tryd.underlying48 rfl (hA.ev rfl)) : RunV _ _ _ _ (.int .u32 x106))) rfl rfl, pu rfl rfl [(0, .slice A0 n0 c0)] (fun ac hA => y_move hA rfl rfl) rfl rfl, pu rfl rfl [(7, .slice A0 n0 c0)] (fun ac hA => y_ia Tryd.underlying24 sz5 (hS.rdl 0 ha0 rfl) h109 hA rfl rfl rfl) rfl rfl, pu rfl rfl [(8, .pointer (some (ea A0 ((1 : Int).toNat * 1))))] (fun ac hA => y_ld Tryd.underlying5 (hc110 0 _ rfl) hA rfl rfl rfl) rfl rfl, pu rfl rfl [(9, .int .u8 x108)] (fun ac hA => (rv_i h112 (r_convI Tryd.underlying5 Tryd.underlying48 rfl (hA.ev rfl)) : RunV _ _ _ _ (.int .u32 x111))) rfl rfl, pu rfl rfl [(10, .int .u32 x111)] (fun ac hA => (rv_i h114 (r_shl rfl (hA.ev rfl) (hA.ev rfl) (by decide)) : RunV _ _ _ _ (.int .u32 x113))) rfl rfl, pu rfl rfl [(6, .int .u32 x106), (11, .int .u32 x113)] (fun ac hA => (rv_i h116 (r_or rfl (hA.ev rfl) (hA.ev rfl)) : RunV _ _ _ _ (.int .u32 x115))) rfl rfl, pu rfl rfl [(0, .slice A0 n0 c0)] (fun ac hA => y_move hA rfl rfl) rfl rfl, pu rfl rfl [(13, .slice A0 n0 c0)] (fun ac hA => y_ia Tryd.underlying24 sz5 (hS.rdl 0 ha0 rfl) h118 hA rfl rfl rfl) rfl rfl, pu rfl rfl [(14, .pointer (some (ea A0 ((2 : Int).toNat * 1))))] (fun ac hA => y_ld Tryd.underlying5 (hc119 0 _ rfl) hA rfl rfl rfl) rfl rfl, pu rfl rfl [(15, .int .u8 x117)] (fun ac hA => (rv_i h121 (r_convI Tryd.underlying5 Tryd.underlying48 rfl (hA.ev rfl)) : RunV _ _ _ _ (.int .u32 x120))) rfl rfl, pu rfl rfl [(16, .int .u32 x120)] (fun ac hA => (rv_i h123 (r_shl rfl (hA.ev rfl) (hA.ev rfl) (by decide)) : RunV _ _ _ _ (.int .u32 x122))) rfl rfl, pu rfl rfl [(12, .int .u32 x115), (17, .int .u32 x122)] (fun ac hA => (rv_i h125 (r_or rfl (hA.ev rfl) (hA.ev rfl)) : RunV _ _ _ _ (.int .u32 x124))) rfl rfl, pu rfl rfl [(0, .slice A0 n0 c0)] (fun ac hA => y_move hA rfl rfl) rfl rfl, pu rfl rfl [(19, .slice A0 n0 c0)] (fun ac hA => y_ia Tryd.underlying24 sz5 (hS.rdl 0 ha0 rfl) h127 hA rfl rfl rfl) rfl rfl, pu rfl rfl [(20, .pointer (some (ea A0 ((3 : Int).toNat * 1))))] (fun ac hA => y_ld Tryd.underlying5 (hc128 0 _ rfl) hA rfl rfl rfl) rfl rfl, pu rfl rfl [(21, .int .u8 x126)] (fun ac hA => (rv_i h130 (r_convI Tryd.underlying5 Tryd.underlying48 rfl (hA.ev rfl)) : RunV _ _ _ _ (.int .u32 x129))) rfl rfl, pu rfl rfl [(22, .int .u32 x129)] (fun ac hA => (rv_i h132 (r_shl rfl (hA.ev rfl) (hA.ev rfl) (by decide)) : RunV _ _ _ _ (.int .u32 x131))) rfl rfl, pu rfl rfl [(18, .int .u32 x124), (23, .int .u32 x131)] (fun ac hA => (rv_i h134 (r_or rfl (hA.ev rfl) (hA.ev rfl)) : RunV _ _ _ _ (.int .u32 x133))) rfl rfl, pu rfl rfl [(24, .int .u32 x133)] (fun ac hA => y_assign hA rfl rfl) rfl rfl, trivial⟩ ⟨by kernel_rfl, by kernel_rfl⟩ [(2, .int .u32 x133)] rfl (fun ac hA => ?_)
 refine hK102 _ _ ?_
 refine wp_ret ?_
 cases hF
 refine hQ _ _ ?_
 refine lv Tryd.results56 hA rfl ?_
 exact ⟨rfl, hS⟩
theorem F_slices_Clone_byte_byte {r : World} {L : List HP} {w : World} (a0 : (List Int)) (A0 : Option Addr) (n0 : Nat) (c0 : Nat) {y : ((List Int))} (hF : slices_Clone_byte_byte a0 = some y) (ha0 : RdL L (kI .u8) A0 n0 c0 a0) (hS : SH r (L) w) :
  Ret Tryd.prog 38 #[.slice A0 n0 c0] w fun v w' => ∃ (B0 : Option Addr) (m0 : Nat) (d0 : Nat), v = .slice B0 m0 d0 ∧ SH r (own (kI .u8) 5 B0 m0 d0 y :: L) w' := by
 refine enter Tryd.func38 rfl Tryd.ntmps38 [(0, .slice A0 n0 c0)] rfl (by simp) ?_
 intro ac hA Qf hQ hQn
 unfold slices_Clone_byte_byte at hF
 refine ws fun K101 hK101 => ?_
 refine x_m hA rfl fun ac hA => ?_
 refine wn (hK101 _ _ ?_)
 refine wp_seq_k fun K102 hK102 => ?_
 refine ws fun K103 hK103 => ?_
 refine x_m hA rfl fun ac hA => ?_
 rcases A0 with _ | ad104
 ·replace hF := nil_l (RdL.none_nil ha0 (hS.sfx 0)) hF
  refine x_v (v := .bool true) hA (r_eqNilS (p := none) Tryd.underlying24 rfl (hA.ev rfl) (hA.ev rfl)) rfl fun ac hA => ?_
  refine wn (hK103 _ _ ?_)
  refine c_t (b := true) rfl hA ?_ rfl
  refine ws fun K105 hK105 => ?_
  refine x_m hA rfl fun ac hA => ?_
  refine wn (hK105 _ _ ?_)
  refine wp_ret ?_
  replace hS := SH.nil_own (d := (kI .u8)) (e := 5) hS
  cases hF
  refine hQ _ _ ?_
  refine lv Tryd.results38 hA rfl ?_
  exact ⟨none, 0, 0, rfl, hS⟩
 replace hF := nil_r hF
 refine x_v (v := .bool false) hA (r_eqNilS (p := some ad104) Tryd.underlying24 rfl (hA.ev rfl) (hA.ev rfl)) rfl fun ac hA => ?_
 refine wn (hK103 _ _ ?_)
 refine c_f (b := false) rfl hA ?_ rfl
 refine wp_skip ?_
 refine hK102 _ _ ?_
 refine ws fun K106 hK106 => ?_
 refine x_bsl (d := (kI .u8)) (e := 5) (ps := #[]) (cells := []) (xs := []) (fun w => by kernel_rfl) rfl rfl hA hS (fun g107 ac w hS hA => ?_) rfl rfl rfl rfl rfl rfl
 refine x_m hA rfl fun ac hA => ?_
 obtain ⟨h108, hF⟩ := chk_some hF
 have hr := hS.rdl 1 ha0 rfl
 refine x_app 0 inf5 Tryd.underlying24 hA hS hr.1 hr.2.1 h108 rfl (fun A109 n110 c111 ac w hS hA => ?_) rfl rfl rfl rfl rfl rfl rfl rfl rfl
 rw [List.nil_append] at hS
 refine x_m hA rfl fun ac hA => ?_
 refine wn (hK106 _ _ ?_)
 refine wp_ret ?_
 cases hF
 refine hQ _ _ ?_
 refine lv Tryd.results38 hA rfl ?_
 exact ⟨A109, n110, c111, rfl, hS⟩
theorem F_page_Read {r : World} {L : List HP} {w : World} {Z : Nat → Prop} {wz : World} (a0 : (List Int)) (a1 : Int) (A0 : Option Addr) (n0 : Nat) (c0 : Nat) {y : (Int × (List Int) × Int × Int)} (hF : page_Read a0 a1 = some y) (qz : Nat) (hZ : L[qz]? = some (zone Z wz)) (ha0 : Imm Z wz (kI .u8) A0 n0 c0 a0) (hG0 : Imm Z wz (kI .u32) (some ⟨0, 0, none⟩) 16 16 gl_page_table) (hS : SH r (L) w) :
  Ret Tryd.prog 37 #[.slice A0 n0 c0, .int .i64 a1] w fun v w' => ∃ (B1 : Option Addr) (m1 : Nat) (d1 : Nat), v = .tuple #[(.int .u8 y.1), (.slice B1 m1 d1), (.int .i64 y.2.2.1), (.int .i64 y.2.2.2)] ∧ SH r (own (kI .u8) 5 B1 m1 d1 y.2.1 :: L) w' := by
 refine enter Tryd.func37 rfl Tryd.ntmps37 [(0, .slice A0 n0 c0), (1, .int .i64 a1)] rfl (by simp) ?_
 intro ac hA Qf hQ hQn
 unfold page_Read at hF
 refine ws fun K101 hK101 => ?_
 refine x_m hA rfl fun ac hA => ?_
 refine x_m hA rfl fun ac hA => ?_
 refine x_m hA rfl fun ac hA => ?_
 refine x_m hA rfl fun ac hA => ?_
 refine wn (hK101 _ _ ?_)
 refine wp_seq_k fun K102 hK102 => ?_
 refine wp_seq_k fun K103 hK103 => ?_
 have hj1 : ∀ (b105 : Bool), page_Read_j1 a0 a1 b105 = some y → ∀ (ac : Act) (w : World), FR 60 [] ac [(0, .slice A0 n0 c0), (1, .int .i64 a1), (18, .bool b105)] → SH r (L) w → K103 ac w := by
  intro b105 hF ac w hA hS
  unfold page_Read_j1 at hF
  refine hK103 _ _ ?_
  refine c_if hA rfl (fun hb106 => ?_) fun hb106 => ?_
  ·replace hF := ift hb106 hF
   refine ws fun K107 hK107 => ?_
   refine x_m hA rfl fun ac hA => ?_
   refine x_m hA rfl fun ac hA => ?_
   refine x_m hA rfl fun ac hA => ?_
   refine x_m hA rfl fun ac hA => ?_
   refine wn (hK107 _ _ ?_)
   refine wp_ret ?_
   replace hS := SH.nil_own (d := (kI .u8)) (e := 5) hS
   cases hF
   refine hQ _ _ ?_
   refine lv4 Tryd.results37 hA rfl rfl rfl rfl ?_
   exact ⟨none, 0, 0, rfl, hS⟩
  replace hF := iff' hb106 hF
  refine wp_skip ?_
  refine hK102 _ _ ?_
  refine ws fun K108 hK108 => ?_
  refine x_m hA rfl fun ac hA => ?_
  refine x_m hA rfl fun ac hA => ?_
  obtain ⟨l109, h110, hF⟩ := bnd hF
  obtain ⟨A113, n114, c115, e112, h111⟩ := imm_lc ha0 h110
  refine x_v (v := .slice A113 n114 c115) hA (rv_e e112 (r_slice_l Tryd.underlying24 sz5 rfl (hA.ev rfl) (hA.ev rfl) (cutq (hS.rdl 0 (ha0.rdl qz hZ) rfl) h110).1 (cutq (hS.rdl 0 (ha0.rdl qz hZ) rfl) h110).2.2.2.2.2)) rfl fun ac hA => ?_
  refine x_m hA rfl fun ac hA => ?_
  refine wn (hK108 _ _ ?_)
  refine wp_seq_k fun K116 hK116 => ?_
  refine ws fun K117 hK117 => ?_
  refine x_m hA rfl fun ac hA => ?_
  refine x_len Tryd.underlying24 (hS.rdl 0 (h111.rdl qz hZ) rfl).2.1 hA (fun ac hA => ?_) rfl rfl rfl rfl rfl
  refine x_v hA (r_ltI rfl (hA.ev rfl) (hA.ev rfl)) rfl fun ac hA => ?_
  refine wn (hK117 _ _ ?_)
  refine c_if hA rfl (fun hb118 => ?_) fun hb118 => ?_
  ·replace hF := ift hb118 hF
   refine ws fun K119 hK119 => ?_
   refine x_m hA rfl fun ac hA => ?_
   refine x_m hA rfl fun ac hA => ?_
   refine x_m hA rfl fun ac hA => ?_
   refine x_m hA rfl fun ac hA => ?_
   refine wn (hK119 _ _ ?_)
   refine wp_ret ?_
   replace hS := SH.nil_own (d := (kI .u8)) (e := 5) hS
   cases hF
   refine hQ _ _ ?_
   refine lv4 Tryd.results37 hA rfl rfl rfl rfl ?_
   exact ⟨none, 0, 0, rfl, hS⟩
  replace hF := iff' hb118 hF
  refine wp_skip ?_
  refine hK116 _ _ ?_
  refine ws fun K120 hK120 => ?_
  refine x_m hA rfl fun ac hA => ?_
  obtain ⟨y121, h122, hF⟩ := bnd hF
  refine x_call en56 hA (F_page_number (L := L) l109 A113 n114 c115 h122 (RdL.sfx 0 rfl (h111.rdl qz hZ)) hS) (fun v ac w hR hA => ?_) rfl rfl rfl rfl rfl
  obtain ⟨rfl, hS⟩ := hR
  refine x_m hA rfl fun ac hA => ?_
  refine wn (hK120 _ _ ?_)
  refine wp_seq_k fun K123 hK123 => ?_
  refine wp_seq_k fun K124 hK124 => ?_
  have hj2 : ∀ (b130 : Bool), page_Read_j2 a1 l109 y121 b130 = some y → ∀ (ac : Act) (w : World), FR 60 [] ac [(1, .int .i64 a1), (8, .slice A113 n114 c115), (9, .int .u32 y121), (36, .bool b130)] → SH r (L) w → K124 ac w := by
   intro b130 hF ac w hA hS
   unfold page_Read_j2 at hF
   refine hK124 _ _ ?_
   refine c_if hA rfl (fun hb131 => ?_) fun hb131 => ?_
   ·replace hF := ift hb131 hF
    refine ws fun K132 hK132 => ?_
    refine x_m hA rfl fun ac hA => ?_
    refine x_m hA rfl fun ac hA => ?_
    refine x_m hA rfl fun ac hA => ?_
    refine x_m hA rfl fun ac hA => ?_
    refine wn (hK132 _ _ ?_)
    refine wp_ret ?_
    replace hS := SH.nil_own (d := (kI .u8)) (e := 5) hS
    cases hF
    refine hQ _ _ ?_
    refine lv4 Tryd.results37 hA rfl rfl rfl rfl ?_
    exact ⟨none, 0, 0, rfl, hS⟩
   replace hF := iff' hb131 hF
   refine wp_skip ?_
   refine hK123 _ _ ?_
   refine ws fun K133 hK133 => ?_
   refine x_m hA rfl fun ac hA => ?_
   obtain ⟨x134, h135, hF⟩ := ltt_ hF
   refine x_v (v := .int .i64 x134) hA (rv_i h135 (r_convI Tryd.underlying48 Tryd.underlying3 rfl (hA.ev rfl))) rfl fun ac hA => ?_
   obtain ⟨x136, h137, hF⟩ := ltt_ hF
   refine x_v (v := .int .i64 x136) hA (rv_i h137 (r_add rfl (hA.ev rfl) (hA.ev rfl))) rfl fun ac hA => ?_
   refine x_m hA rfl fun ac hA => ?_
   refine wn (hK133 _ _ ?_)
   refine wp_seq_k fun K138 hK138 => ?_
   refine wp_seq_k fun K139 hK139 => ?_
   refine wp_draw [0, 0, 3, 7, 0, 0, 48, 127, 255] [3, 7] rfl hA hS (by kernel_rfl) (by kernel_rfl) (by kernel_rfl) (by kernel_rfl) fun w hS => ?_
   obtain ⟨l140, h141, hF⟩ := bnd hF
   obtain ⟨A144, n145, c146, e143, h142⟩ := imm_hc h111 h141
   obtain ⟨l147, h148, hF⟩ := bnd hF
   obtain ⟨A151, n152, c153, e150, h149⟩ := imm_lc h111 h148
   refine ⟨[(0, .slice A113 n114 c115), (1, .int .i64 x136), (2, .slice A144 n145 c146), (4, .slice A113 n114 c115), (5, .int .i64 x136), (6, .slice A151 n152 c153)], ?_⟩
   refine dEff [0, 1, 2, 4, 5, 6] [3] (by kernel_rfl) ⟨pu rfl rfl [(8, .slice A113 n114 c115)] (fun ac hA => y_move hA rfl rfl) rfl rfl, pu rfl rfl [(10, .int .i64 x136)] (fun ac hA => y_move hA rfl rfl) rfl rfl, pu rfl rfl [(40, .slice A113 n114 c115), (41, .int .i64 x136)] (fun ac hA => (rv_e e143 (r_slice_h Tryd.underlying24 sz5 rfl (hA.ev rfl) (hA.ev rfl) (cutq (hS.rdl 0 (h111.rdl qz hZ) rfl) h141).2.2.2.2.1 (cutq (hS.rdl 0 (h111.rdl qz hZ) rfl) h141).2.2.1) : RunV _ _ _ _ (.slice A144 n145 c146))) rfl rfl, pu rfl rfl [(8, .slice A113 n114 c115)] (fun ac hA => y_move hA rfl rfl) rfl rfl, pu rfl rfl [(10, .int .i64 x136)] (fun ac hA => y_move hA rfl rfl) rfl rfl, pu rfl rfl [(44, .slice A113 n114 c115), (45, .int .i64 x136)] (fun ac hA => (rv_e e150 (r_slice_l Tryd.underlying24 sz5 rfl (hA.ev rfl) (hA.ev rfl) (cutq (hS.rdl 0 (h111.rdl qz hZ) rfl) h148).1 (cutq (hS.rdl 0 (h111.rdl qz hZ) rfl) h148).2.2.2.2.2) : RunV _ _ _ _ (.slice A151 n152 c153))) rfl rfl, trivial⟩ (by kernel_rfl) (by kernel_rfl) ⟨ef rfl [(42, .slice A144 n145 c146)] (fun ac hA K hK => ?_) rfl rfl, trivial⟩
   obtain ⟨y154, h155, hF⟩ := bnd hF
   refine z_call en50 hA (F_page_Sum (L := L) l140 A144 n145 c146 h155 (qz + 0) hZ (RdL.sfx 0 rfl (h142.rdl qz hZ)) hG0 hS) (fun v w hR => ?_) rfl rfl
   obtain ⟨rfl, hS⟩ := hR
   refine hK _ [] _ rfl ?_
   refine dEff [4, 5, 6] [7] (by kernel_rfl) ⟨pu rfl rfl [(8, .slice A113 n114 c115)] (fun ac hA => y_move hA rfl rfl) rfl rfl, pu rfl rfl [(10, .int .i64 x136)] (fun ac hA => y_move hA rfl rfl) rfl rfl, pu rfl rfl [(44, .slice A113 n114 c115), (45, .int .i64 x136)] (fun ac hA => (rv_e e150 (r_slice_l Tryd.underlying24 sz5 rfl (hA.ev rfl) (hA.ev rfl) (cutq (hS.rdl 0 (h111.rdl qz hZ) rfl) h148).1 (cutq (hS.rdl 0 (h111.rdl qz hZ) rfl) h148).2.2.2.2.2) : RunV _ _ _ _ (.slice A151 n152 c153))) rfl rfl, trivial⟩ (by kernel_rfl) (by kernel_rfl) ⟨ef rfl [(46, .slice A151 n152 c153)] (fun ac hA K hK => ?_) rfl rfl, trivial⟩
   obtain ⟨y156, h157, hF⟩ := bnd hF
   refine z_call en56 hA (F_page_number (L := L) l147 A151 n152 c153 h157 (RdL.sfx 0 rfl (h149.rdl qz hZ)) hS) (fun v w hR => ?_) rfl rfl
   obtain ⟨rfl, hS⟩ := hR
   refine hK _ [(8, .bool (y154 != y156))] _ rfl ?_
   refine dEnd [8] (by kernel_rfl) ⟨pu rfl rfl [(43, .int .u32 y154), (47, .int .u32 y156)] (fun ac hA => r_neI rfl (hA.ev rfl) (hA.ev rfl)) rfl rfl, trivial⟩ ⟨by kernel_rfl, by kernel_rfl⟩ [(1, .int .i64 a1), (8, .slice A113 n114 c115), (10, .int .i64 x136), (48, .bool (y154 != y156))] rfl (fun ac hA => ?_)
   refine hK139 _ _ ?_
   refine c_if hA rfl (fun hb158 => ?_) fun hb158 => ?_
   ·replace hF := ift hb158 hF
    refine ws fun K159 hK159 => ?_
    refine x_m hA rfl fun ac hA => ?_
    refine x_m hA rfl fun ac hA => ?_
    refine x_m hA rfl fun ac hA => ?_
    refine x_m hA rfl fun ac hA => ?_
    refine wn (hK159 _ _ ?_)
    refine wp_ret ?_
    replace hS := SH.nil_own (d := (kI .u8)) (e := 5) hS
    cases hF
    refine hQ _ _ ?_
    refine lv4 Tryd.results37 hA rfl rfl rfl rfl ?_
    exact ⟨none, 0, 0, rfl, hS⟩
   replace hF := iff' hb158 hF
   refine wp_skip ?_
   refine hK138 _ _ ?_
   refine wp_seq_k fun K160 hK160 => ?_
   refine wp_draw [0, 1, 3, 0, 0, 24, 56, 0, 0, 384, 896, 127, 2175, 8191, 16383] [6] rfl hA hS (by kernel_rfl) (by kernel_rfl) (by kernel_rfl) (by kernel_rfl) fun w hS => ?_
   obtain ⟨x161, h162, hF⟩ := bnd hF
   obtain ⟨cs, hV, hc163⟩ := el (hS.rdl 0 (h111.rdl qz hZ) rfl) h162
   obtain rfl := hV
   obtain ⟨l164, h165, hF⟩ := bnd hF
   obtain ⟨A168, n169, c170, e167, h166⟩ := imm_lhc h111 h165
   obtain ⟨x171, h172, hF⟩ := ltt_ hF
   obtain ⟨x173, h174, hF⟩ := ltt_ hF
   refine ⟨[(0, .slice A113 n114 c115), (1, .pointer (some (ea A113 ((4 : Int).toNat * 1)))), (2, .int .u8 x161), (3, .slice A113 n114 c115), (4, .int .i64 x136), (5, .slice A168 n169 c170), (7, .int .i64 a1), (8, .int .i64 x136), (9, .int .i64 x171), (10, .int .i64 x173)], ?_⟩
   refine dEff [0, 1, 2, 3, 4, 5, 7, 8, 9, 10] [6] (by kernel_rfl) ⟨pu rfl rfl [(8, .slice A113 n114 c115)] (fun ac hA => y_move hA rfl rfl) rfl rfl, pu rfl rfl [(49, .slice A113 n114 c115)] (fun ac hA => y_ia Tryd.underlying24 sz5 (hS.rdl 0 (h111.rdl qz hZ) rfl) h162 hA rfl rfl rfl) rfl rfl, pu rfl rfl [(50, .pointer (some (ea A113 ((4 : Int).toNat * 1))))] (fun ac hA => y_ld Tryd.underlying5 (hc163 0 _ rfl) hA rfl rfl rfl) rfl rfl, pu rfl rfl [(8, .slice A113 n114 c115)] (fun ac hA => y_move hA rfl rfl) rfl rfl, pu rfl rfl [(10, .int .i64 x136)] (fun ac hA => y_move hA rfl rfl) rfl rfl, pu rfl rfl [(52, .slice A113 n114 c115), (53, .int .i64 x136)] (fun ac hA => (rv_e e167 (r_slice_lh Tryd.underlying24 sz5 rfl (hA.ev rfl) (hA.ev rfl) (hA.ev rfl) (cutq (hS.rdl 0 (h111.rdl qz hZ) rfl) h165).1 (cutq (hS.rdl 0 (h111.rdl qz hZ) rfl) h165).2.1 (cutq (hS.rdl 0 (h111.rdl qz hZ) rfl) h165).2.2.1) : RunV _ _ _ _ (.slice A168 n169 c170))) rfl rfl, pu rfl rfl [(1, .int .i64 a1)] (fun ac hA => y_move hA rfl rfl) rfl rfl, pu rfl rfl [(10, .int .i64 x136)] (fun ac hA => y_move hA rfl rfl) rfl rfl, pu rfl rfl [(56, .int .i64 a1), (57, .int .i64 x136)] (fun ac hA => (rv_i h172 (r_add rfl (hA.ev rfl) (hA.ev rfl)) : RunV _ _ _ _ (.int .i64 x171))) rfl rfl, pu rfl rfl [(58, .int .i64 x171)] (fun ac hA => (rv_i h174 (r_add rfl (hA.ev rfl) (hA.ev rfl)) : RunV _ _ _ _ (.int .i64 x173))) rfl rfl, trivial⟩ (by kernel_rfl) (by kernel_rfl) ⟨ef rfl [(54, .slice A168 n169 c170)] (fun ac hA K hK => ?_) rfl rfl, trivial⟩
   obtain ⟨y175, h176, hF⟩ := bnd hF
   refine z_call en38 hA (F_slices_Clone_byte_byte (L := L) l164 A168 n169 c170 h176 (RdL.sfx 0 rfl (h166.rdl qz hZ)) hS) (fun v w hR => ?_) rfl rfl
   obtain ⟨B177, m178, d179, rfl, hS⟩ := hR
   obtain ⟨cs, hV, hc180⟩ := el (hS.rdl 1 (h111.rdl qz hZ) rfl) h162
   obtain rfl := hV
   refine hK _ [(11, .int .u8 x161), (12, .slice B177 m178 d179), (13, .int .i64 x173), (14, .int .i64 0)] _ rfl ?_
   refine dEnd [0, 1, 2, 7, 8, 9, 10, 11, 12, 13, 14] (by kernel_rfl) ⟨pu rfl rfl [(8, .slice A113 n114 c115)] (fun ac hA => y_move hA rfl rfl) rfl rfl, pu rfl rfl [(49, .slice A113 n114 c115)] (fun ac hA => y_ia Tryd.underlying24 sz5 (hS.rdl 1 (h111.rdl qz hZ) rfl) h162 hA rfl rfl rfl) rfl rfl, pu rfl rfl [(50, .pointer (some (ea A113 ((4 : Int).toNat * 1))))] (fun ac hA => y_ld Tryd.underlying5 (hc180 0 _ rfl) hA rfl rfl rfl) rfl rfl, pu rfl rfl [(1, .int .i64 a1)] (fun ac hA => y_move hA rfl rfl) rfl rfl, pu rfl rfl [(10, .int .i64 x136)] (fun ac hA => y_move hA rfl rfl) rfl rfl, pu rfl rfl [(56, .int .i64 a1), (57, .int .i64 x136)] (fun ac hA => (rv_i h172 (r_add rfl (hA.ev rfl) (hA.ev rfl)) : RunV _ _ _ _ (.int .i64 x171))) rfl rfl, pu rfl rfl [(58, .int .i64 x171)] (fun ac hA => (rv_i h174 (r_add rfl (hA.ev rfl) (hA.ev rfl)) : RunV _ _ _ _ (.int .i64 x173))) rfl rfl, pu rfl rfl [(51, .int .u8 x161)] (fun ac hA => y_assign hA rfl rfl) rfl rfl, pu rfl rfl [(55, .slice B177 m178 d179)] (fun ac hA => y_assign hA rfl rfl) rfl rfl, pu rfl rfl [(59, .int .i64 x173)] (fun ac hA => y_assign hA rfl rfl) rfl rfl, pu rfl rfl [] (fun ac hA => y_assign hA rfl rfl) rfl rfl, trivial⟩ ⟨by kernel_rfl, by kernel_rfl⟩ [(4, .int .u8 x161), (5, .slice B177 m178 d179), (6, .int .i64 x173), (7, .int .i64 0)] rfl (fun ac hA => ?_)
   refine hK160 _ _ ?_
   refine wp_ret ?_
   cases hF
   refine hQ _ _ ?_
   refine lv4 Tryd.results37 hA rfl rfl rfl rfl ?_
   exact ⟨B177, m178, d179, rfl, hS⟩
  refine wp_reg ?_
  refine x_m hA rfl fun ac hA => ?_
  refine x_v hA (r_gtI rfl (hA.ev rfl) (hA.ev rfl)) rfl fun ac hA => ?_
  refine x_m hA rfl fun ac hA => ?_
  refine bcase (b := decide (1048576 < y121)) (fun hb181 => ?_) fun hb181 => ?_
  ·replace hF := ift hb181 hF
   refine x_off hb181 hA (fun ac hA => ?_) rfl rfl rfl rfl rfl
   refine x_off hb181 hA (fun ac hA => ?_) rfl rfl rfl rfl rfl
   refine x_off hb181 hA (fun ac hA => ?_) rfl rfl rfl rfl rfl
   refine x_off hb181 hA (fun ac hA => ?_) rfl rfl rfl rfl rfl
   refine x_off hb181 hA (fun ac hA => ?_) rfl rfl rfl rfl rfl
   refine x_off hb181 hA (fun ac hA => ?_) rfl rfl rfl rfl rfl
   refine x_pickt hb181 hA (fun ac hA => ?_) rfl rfl rfl rfl rfl rfl
   refine wpList_nil ?_
   exact hj2 true hF ac w (hA.sub _ rfl) hS
  replace hF := iff' hb181 hF
  refine x_on hb181 hA ?_ rfl rfl rfl
  refine x_m hA rfl fun ac hA => ?_
  refine x_on hb181 hA ?_ rfl rfl rfl
  obtain ⟨x182, h183, hF⟩ := ltt_ hF
  refine x_v (v := .int .i64 x182) hA (rv_i h183 (r_convI Tryd.underlying48 Tryd.underlying3 rfl (hA.ev rfl))) rfl fun ac hA => ?_
  refine x_on hb181 hA ?_ rfl rfl rfl
  refine x_m hA rfl fun ac hA => ?_
  refine x_on hb181 hA ?_ rfl rfl rfl
  refine x_len Tryd.underlying24 (hS.rdl 0 (h111.rdl qz hZ) rfl).2.1 hA (fun ac hA => ?_) rfl rfl rfl rfl rfl
  refine x_on hb181 hA ?_ rfl rfl rfl
  obtain ⟨x184, h185, hF⟩ := ltt_ hF
  refine x_v (v := .int .i64 x184) hA (rv_i h185 (r_sub rfl (hA.ev rfl) (hA.ev rfl))) rfl fun ac hA => ?_
  refine x_on hb181 hA ?_ rfl rfl rfl
  refine x_v hA (r_gtI rfl (hA.ev rfl) (hA.ev rfl)) rfl fun ac hA => ?_
  refine x_pickf hb181 hA (fun ac hA => ?_) rfl rfl rfl rfl rfl rfl
  refine wpList_nil ?_
  exact hj2 (decide (x184 < x182)) hF ac w (hA.sub _ rfl) hS
 refine wp_reg ?_
 refine x_m hA rfl fun ac hA => ?_
 refine x_v hA (r_ltI rfl (hA.ev rfl) (hA.ev rfl)) rfl fun ac hA => ?_
 refine x_m hA rfl fun ac hA => ?_
 refine bcase (b := decide (a1 < 0)) (fun hb186 => ?_) fun hb186 => ?_
 ·replace hF := ift hb186 hF
  refine x_off hb186 hA (fun ac hA => ?_) rfl rfl rfl rfl rfl
  refine x_off hb186 hA (fun ac hA => ?_) rfl rfl rfl rfl rfl
  refine x_off hb186 hA (fun ac hA => ?_) rfl rfl rfl rfl rfl
  refine x_off hb186 hA (fun ac hA => ?_) rfl rfl rfl rfl rfl
  refine x_pickt hb186 hA (fun ac hA => ?_) rfl rfl rfl rfl rfl rfl
  refine wpList_nil ?_
  exact hj1 true hF ac w (hA.sub _ rfl) hS
 replace hF := iff' hb186 hF
 refine x_on hb186 hA ?_ rfl rfl rfl
 refine x_m hA rfl fun ac hA => ?_
 refine x_on hb186 hA ?_ rfl rfl rfl
 refine x_m hA rfl fun ac hA => ?_
 refine x_on hb186 hA ?_ rfl rfl rfl
 refine x_len Tryd.underlying24 (hS.rdl 0 (ha0.rdl qz hZ) rfl).2.1 hA (fun ac hA => ?_) rfl rfl rfl rfl rfl
 refine x_on hb186 hA ?_ rfl rfl rfl
 refine x_v hA (r_gtI rfl (hA.ev rfl) (hA.ev rfl)) rfl fun ac hA => ?_
 refine x_pickf hb186 hA (fun ac hA => ?_) rfl rfl rfl rfl rfl rfl
 refine wpList_nil ?_
 exact hj1 (decide ((a0.length : Int) < a1)) hF ac w (hA.sub _ rfl) hS
end Go.Proofs.YteodeedejjcmgaaDoor.M
namespace Go.Proofs.YteodeedejjcmgaaDoor.M
open Go Go.RowKit Go.Proofs.YteodeedejjcmgaaDoor.E
set_option linter.unusedVariables false
set_option linter.unusedSimpArgs false
noncomputable def page_four (a0 : Int) : Option ((List Int)) :=
  ltt (IntKind.u8.wrap a0) fun x103 => (ltt (ishr .u32 a0 8) fun x105 => (ltt (IntKind.u8.wrap x105) fun x107 => (ltt (ishr .u32 a0 16) fun x109 => (ltt (IntKind.u8.wrap x109) fun x111 => (ltt (ishr .u32 a0 24) fun x113 => (ltt (IntKind.u8.wrap x113) fun x115 => (some [x103, x107, x111, x115])))))))
noncomputable def page_Lay (a0 : (List Int)) (a1 : Int) (a2 : (List Int)) : Option ((List Int)) :=
  ltt (IntKind.u32.wrap (a2.length : Int)) fun x103 => ((page_four x103).bind fun y105 => (chk (y105.length + [a1].length ≤ 140737488355328 / 1) (chk ((y105 ++ [a1]).length + a2.length ≤ 140737488355328 / 1) (chk (a0.length + ((y105 ++ [a1]) ++ a2).length ≤ 140737488355328 / 1) ((page_Sum ((y105 ++ [a1]) ++ a2)).bind fun y124 => ((page_four y124).bind fun y126 => (chk ((a0 ++ ((y105 ++ [a1]) ++ a2)).length + y126.length ≤ 140737488355328 / 1) (some ((a0 ++ ((y105 ++ [a1]) ++ a2)) ++ y126)))))))))
end Go.Proofs.YteodeedejjcmgaaDoor.M
namespace Go.Proofs.YteodeedejjcmgaaDoor.M
open Go Go.RowKit Go.Proofs.YteodeedejjcmgaaDoor.E
set_option linter.unusedVariables false
set_option maxRecDepth 100000
set_option maxHeartbeats 4000000
set_option linter.unusedSimpArgs false
theorem F_page_four {r : World} {L : List HP} {w : World} (a0 : Int) {y : ((List Int))} (hF : page_four a0 = some y) (hS : SH r (L) w) :
  Ret Tryd.prog 49 #[.int .u32 a0] w fun v w' => ∃ (B0 : Option Addr) (m0 : Nat) (d0 : Nat), v = .slice B0 m0 d0 ∧ SH r (own (kI .u8) 5 B0 m0 d0 y :: L) w' := by
 refine enter Tryd.func49 rfl Tryd.ntmps49 [(0, .int .u32 a0)] rfl (by simp) ?_
 intro ac hA Qf hQ hQn
 unfold page_four at hF
 refine ws fun K101 hK101 => ?_
 refine x_m hA rfl fun ac hA => ?_
 refine wn (hK101 _ _ ?_)
 refine ws fun K102 hK102 => ?_
 refine x_m hA rfl fun ac hA => ?_
 obtain ⟨x103, h104, hF⟩ := ltt_ hF
 refine x_v (v := .int .u8 x103) hA (rv_i h104 (r_convI Tryd.underlying48 Tryd.underlying5 rfl (hA.ev rfl))) rfl fun ac hA => ?_
 refine x_m hA rfl fun ac hA => ?_
 obtain ⟨x105, h106, hF⟩ := ltt_ hF
 refine x_v (v := .int .u32 x105) hA (rv_i h106 (r_shr rfl (hA.ev rfl) (hA.ev rfl) (by decide))) rfl fun ac hA => ?_
 obtain ⟨x107, h108, hF⟩ := ltt_ hF
 refine x_v (v := .int .u8 x107) hA (rv_i h108 (r_convI Tryd.underlying48 Tryd.underlying5 rfl (hA.ev rfl))) rfl fun ac hA => ?_
 refine x_m hA rfl fun ac hA => ?_
 obtain ⟨x109, h110, hF⟩ := ltt_ hF
 refine x_v (v := .int .u32 x109) hA (rv_i h110 (r_shr rfl (hA.ev rfl) (hA.ev rfl) (by decide))) rfl fun ac hA => ?_
 obtain ⟨x111, h112, hF⟩ := ltt_ hF
 refine x_v (v := .int .u8 x111) hA (rv_i h112 (r_convI Tryd.underlying48 Tryd.underlying5 rfl (hA.ev rfl))) rfl fun ac hA => ?_
 refine x_m hA rfl fun ac hA => ?_
 obtain ⟨x113, h114, hF⟩ := ltt_ hF
 refine x_v (v := .int .u32 x113) hA (rv_i h114 (r_shr rfl (hA.ev rfl) (hA.ev rfl) (by decide))) rfl fun ac hA => ?_
 obtain ⟨x115, h116, hF⟩ := ltt_ hF
 refine x_v (v := .int .u8 x115) hA (rv_i h116 (r_convI Tryd.underlying48 Tryd.underlying5 rfl (hA.ev rfl))) rfl fun ac hA => ?_
 refine x_bsl (d := (kI .u8)) (e := 5) (ps := #[(0, .int .u8 x103), (1, .int .u8 x107), (2, .int .u8 x111), (3, .int .u8 x115)]) (cells := [.int .u8 x103, .int .u8 x107, .int .u8 x111, .int .u8 x115]) (xs := [x103, x107, x111, x115]) (fun w => by kernel_rfl) rfl ⟨[.int .u8 x103], _, rfl, rfl, ⟨[.int .u8 x107], _, rfl, rfl, ⟨[.int .u8 x111], _, rfl, rfl, ⟨[.int .u8 x115], _, rfl, rfl, rfl⟩⟩⟩⟩ hA hS (fun g117 ac w hS hA => ?_) rfl rfl rfl rfl rfl rfl
 refine x_m hA rfl fun ac hA => ?_
 refine wn (hK102 _ _ ?_)
 refine wp_ret ?_
 cases hF
 refine hQ _ _ ?_
 refine lv Tryd.results49 hA rfl ?_
 exact ⟨some ⟨g117, 0, none⟩, 4, 4, rfl, hS⟩
theorem F_page_Lay {r : World} {L : List HP} {w : World} {Z : Nat → Prop} {wz : World} (a0 : (List Int)) (a1 : Int) (a2 : (List Int)) (A0 : Option Addr) (n0 : Nat) (c0 : Nat) (A2 : Option Addr) (n2 : Nat) (c2 : Nat) {y : ((List Int))} (hF : page_Lay a0 a1 a2 = some y) (qz : Nat) (hZ : L[qz]? = some (zone Z wz)) (ha2 : RdL L (kI .u8) A2 n2 c2 a2) (hG0 : Imm Z wz (kI .u32) (some ⟨0, 0, none⟩) 16 16 gl_page_table) (hS : SH r (own (kI .u8) 5 A0 n0 c0 a0 :: L) w) :
  Ret Tryd.prog 30 #[.slice A0 n0 c0, .int .u8 a1, .slice A2 n2 c2] w fun v w' => ∃ (B0 : Option Addr) (m0 : Nat) (d0 : Nat), v = .slice B0 m0 d0 ∧ SH r (own (kI .u8) 5 B0 m0 d0 y :: L) w' := by
 refine enter Tryd.func30 rfl Tryd.ntmps30 [(0, .slice A0 n0 c0), (1, .int .u8 a1), (2, .slice A2 n2 c2)] rfl (by simp) ?_
 intro ac hA Qf hQ hQn
 unfold page_Lay at hF
 refine ws fun K101 hK101 => ?_
 refine x_m hA rfl fun ac hA => ?_
 refine wn (hK101 _ _ ?_)
 refine ws fun K102 hK102 => ?_
 refine x_m hA rfl fun ac hA => ?_
 refine x_len Tryd.underlying24 (hS.rdl 1 ha2 rfl).2.1 hA (fun ac hA => ?_) rfl rfl rfl rfl rfl
 obtain ⟨x103, h104, hF⟩ := ltt_ hF
 refine x_v (v := .int .u32 x103) hA (rv_i h104 (r_convI Tryd.underlying3 Tryd.underlying48 rfl (hA.ev rfl))) rfl fun ac hA => ?_
 obtain ⟨y105, h106, hF⟩ := bnd hF
 refine x_call en49 hA (F_page_four (L := own (kI .u8) 5 A0 n0 c0 a0 :: L) x103 h106 hS) (fun v ac w hR hA => ?_) rfl rfl rfl rfl rfl
 obtain ⟨B107, m108, d109, rfl, hS⟩ := hR
 refine x_m hA rfl fun ac hA => ?_
 refine x_bsl (d := (kI .u8)) (e := 5) (ps := #[(0, .int .u8 a1)]) (cells := [.int .u8 a1]) (xs := [a1]) (fun w => by kernel_rfl) rfl ⟨[.int .u8 a1], _, rfl, rfl, rfl⟩ hA hS (fun g110 ac w hS hA => ?_) rfl rfl rfl rfl rfl rfl
 obtain ⟨h111, hF⟩ := chk_some hF
 have hr := hS.rd 0 rfl
 refine x_app 1 inf5 Tryd.underlying24 hA hS hr.1 hr.2.1 h111 rfl (fun A112 n113 c114 ac w hS hA => ?_) rfl rfl rfl rfl rfl rfl rfl rfl rfl
 refine x_m hA rfl fun ac hA => ?_
 obtain ⟨h115, hF⟩ := chk_some hF
 have hr := hS.rdl 3 ha2 rfl
 refine x_app 0 inf5 Tryd.underlying24 hA hS hr.1 hr.2.1 h115 rfl (fun A116 n117 c118 ac w hS hA => ?_) rfl rfl rfl rfl rfl rfl rfl rfl rfl
 refine x_m hA rfl fun ac hA => ?_
 refine wn (hK102 _ _ ?_)
 refine ws fun K119 hK119 => ?_
 refine x_m hA rfl fun ac hA => ?_
 refine x_m hA rfl fun ac hA => ?_
 obtain ⟨h120, hF⟩ := chk_some hF
 have hr := hS.rd 0 rfl
 refine x_app 2 inf5 Tryd.underlying24 hA hS hr.1 hr.2.1 h120 rfl (fun A121 n122 c123 ac w hS hA => ?_) rfl rfl rfl rfl rfl rfl rfl rfl rfl
 refine x_m hA rfl fun ac hA => ?_
 obtain ⟨y124, h125, hF⟩ := bnd hF
 refine x_call en50 hA (F_page_Sum (L := own (kI .u8) 5 A121 n122 c123 (a0 ++ ((y105 ++ [a1]) ++ a2)) :: own (kI .u8) 5 A116 n117 c118 ((y105 ++ [a1]) ++ a2) :: own (kI .u8) 5 (some ⟨g110, 0, none⟩) 1 1 [a1] :: L) ((y105 ++ [a1]) ++ a2) A116 n117 c118 h125 (qz + 3) hZ (RdL.own 1 rfl (hS.dropN 0)) hG0 hS) (fun v ac w hR hA => ?_) rfl rfl rfl rfl rfl
 obtain ⟨rfl, hS⟩ := hR
 obtain ⟨y126, h127, hF⟩ := bnd hF
 refine x_call en49 hA (F_page_four (L := own (kI .u8) 5 A121 n122 c123 (a0 ++ ((y105 ++ [a1]) ++ a2)) :: own (kI .u8) 5 A116 n117 c118 ((y105 ++ [a1]) ++ a2) :: own (kI .u8) 5 (some ⟨g110, 0, none⟩) 1 1 [a1] :: L) y124 h127 hS) (fun v ac w hR hA => ?_) rfl rfl rfl rfl rfl
 obtain ⟨B128, m129, d130, rfl, hS⟩ := hR
 obtain ⟨h131, hF⟩ := chk_some hF
 have hr := hS.rd 0 rfl
 refine x_app 1 inf5 Tryd.underlying24 hA hS hr.1 hr.2.1 h131 rfl (fun A132 n133 c134 ac w hS hA => ?_) rfl rfl rfl rfl rfl rfl rfl rfl rfl
 refine x_m hA rfl fun ac hA => ?_
 refine wn (hK119 _ _ ?_)
 refine wp_ret ?_
 replace hS := hS.drop 1
 replace hS := hS.drop 1
 replace hS := hS.drop 1
 cases hF
 refine hQ _ _ ?_
 refine lv Tryd.results30 hA rfl ?_
 exact ⟨A132, n133, c134, rfl, hS⟩
end Go.Proofs.YteodeedejjcmgaaDoor.M
namespace Go.Proofs.YteodeedejjcmgaaDoor.M
open Go Go.RowKit Go.Proofs.YteodeedejjcmgaaDoor.E
set_option linter.unusedVariables false
set_option linter.unusedSimpArgs false
noncomputable def column_Uint_b1 (l318 : (List Int)) (x322 : Int) : Option ((List Int)) :=
  ltt (IntKind.u8.wrap x322) fun x324 => (chk (l318.length + [x324].length ≤ 140737488355328 / 1) (some (l318 ++ [x324])))
noncomputable def column_Uint_x1_0 (l378 : (List Int)) (x382 : Int) : Option ((List Int)) :=
  column_Uint_b1 l378 x382
noncomputable def column_Uint_l1 (l352 : (List Int)) (x356 : Int) : Option (((List Int) × Int) ⊕ (((List Int) × Int))) :=
  if (decide (128 ≤ x356)) = true then (ltt (IntKind.u8.wrap x356) fun x389 => (ltt (ior .u8 x389 128) fun x391 => (chk (l352.length + [x391].length ≤ 140737488355328 / 1) (ltt (ishr .u64 x356 7) fun x398 => (some (.inl (l352 ++ [x391], x398))))))) else (some (.inr (l352, x356)))
noncomputable def column_Uint (a0 : (List Int)) (a1 : Int) : Option ((List Int)) :=
  (loop (fun s => column_Uint_l1 s.1 s.2) (a0, a1)).bind fun t => column_Uint_x1_0 t.1 t.2
noncomputable def column_Int (a0 : (List Int)) (a1 : Int) : Option ((List Int)) :=
  ltt (ishl .i64 a1 1) fun x103 => (ltt (IntKind.u64.wrap x103) fun x105 => (ltt (ishr .i64 a1 63) fun x107 => (ltt (IntKind.u64.wrap x107) fun x109 => (ltt (ixor .u64 x105 x109) fun x111 => ((column_Uint a0 x111).bind fun y113 => (some y113))))))
noncomputable def column_Text (a0 : (List Int)) (a1 : (List UInt8)) : Option ((List Int)) :=
  ltt (IntKind.u64.wrap (a1.length : Int)) fun x103 => ((column_Uint a0 x103).bind fun y105 => (chk (y105.length + a1.length ≤ 140737488355328 / 1) (some (y105 ++ stb a1))))
noncomputable def slices_Min_int64_int64_b1 (x232 : Int) : Option (Int) :=
  some x232
noncomputable def slices_Min_int64_int64_x1_0 (x260 : Int) : Option (Int) :=
  slices_Min_int64_int64_b1 x260
noncomputable def slices_Min_int64_int64_l1 (a0 : (List Int)) (x246 : Int) (x247 : Int) : Option ((Int × Int) ⊕ ((Int))) :=
  if (decide (x247 < (a0.length : Int))) = true then ((at_ a0 x247).bind fun x267 => (ltt (IntKind.i64.wrap (x247 + 1)) fun x270 => (some (.inl (if x267 < x246 then x267 else x246, x270))))) else (some (.inr (x246)))
noncomputable def slices_Min_int64_int64 (a0 : (List Int)) : Option (Int) :=
  if (decide ((a0.length : Int) < 1)) = true then (none) else ((at_ a0 0).bind fun x108 => ((loop (fun s => slices_Min_int64_int64_l1 a0 s.1 s.2) (x108, 1)).bind fun t => slices_Min_int64_int64_x1_0 t))
noncomputable def bits_Len64_j3 (x128 : Int) (x129 : Int) : Option (Int) :=
  ltt (IntKind.u8.wrap x128) fun x131 => ((at_ ([0, 1, 2, 2, 3, 3, 3, 3, 4, 4, 4, 4, 4, 4, 4, 4, 5, 5, 5, 5, 5, 5, 5, 5, 5, 5, 5, 5, 5, 5, 5, 5, 6, 6, 6, 6, 6, 6, 6, 6, 6, 6, 6, 6, 6, 6, 6, 6, 6, 6, 6, 6, 6, 6, 6, 6, 6, 6, 6, 6, 6, 6, 6, 6, 7, 7, 7, 7, 7, 7, 7, 7, 7, 7, 7, 7, 7, 7, 7, 7, 7, 7, 7, 7, 7, 7, 7, 7, 7, 7, 7, 7, 7, 7, 7, 7, 7, 7, 7, 7, 7, 7, 7, 7, 7, 7, 7, 7, 7, 7, 7, 7, 7, 7, 7, 7, 7, 7, 7, 7, 7, 7, 7, 7, 7, 7, 7, 7, 8, 8, 8, 8, 8, 8, 8, 8, 8, 8, 8, 8, 8, 8, 8, 8, 8, 8, 8, 8, 8, 8, 8, 8, 8, 8, 8, 8, 8, 8, 8, 8, 8, 8, 8, 8, 8, 8, 8, 8, 8, 8, 8, 8, 8, 8, 8, 8, 8, 8, 8, 8, 8, 8, 8, 8, 8, 8, 8, 8, 8, 8, 8, 8, 8, 8, 8, 8, 8, 8, 8, 8, 8, 8, 8, 8, 8, 8, 8, 8, 8, 8, 8, 8, 8, 8, 8, 8, 8, 8, 8, 8, 8, 8, 8, 8, 8, 8, 8, 8, 8, 8, 8, 8, 8, 8, 8, 8, 8, 8, 8, 8, 8, 8, 8, 8, 8, 8, 8, 8, 8, 8, 8, 8, 8, 8, 8, 8] : List UInt8) x131).bind fun x133 => (ltt (IntKind.i64.wrap (x133.toNat : Int)) fun x135 => (ltt (IntKind.i64.wrap (x129 + x135)) fun x137 => (some x137))))
noncomputable def bits_Len64_j2 (x118 : Int) (x119 : Int) : Option (Int) :=
  if (decide (256 ≤ x118)) = true then (ltt (ishr .u64 x118 8) fun x142 => (ltt (IntKind.i64.wrap (x119 + 8)) fun x144 => (bits_Len64_j3 x142 x144))) else (bits_Len64_j3 x118 x119)
noncomputable def bits_Len64_j1 (x108 : Int) (x109 : Int) : Option (Int) :=
  if (decide (65536 ≤ x108)) = true then (ltt (ishr .u64 x108 16) fun x149 => (ltt (IntKind.i64.wrap (x109 + 16)) fun x151 => (bits_Len64_j2 x149 x151))) else (bits_Len64_j2 x108 x109)
noncomputable def bits_Len64 (a0 : Int) : Option (Int) :=
  if (decide (4294967296 ≤ a0)) = true then (ltt (ishr .u64 a0 32) fun x156 => (bits_Len64_j1 x156 32)) else (bits_Len64_j1 a0 0)
noncomputable def column_pack_b2 (y296 : ((List Int))) (x301 : Int) (l8646 : (List Int)) : Option ((List Int)) :=
  chk ((y296 ++ [x301]).length + l8646.length ≤ 140737488355328 / 1) (some ((y296 ++ [x301]) ++ l8646))
noncomputable def column_pack_x1_2 (y296 : ((List Int))) (x301 : Int) (l10485 : (List Int)) : Option ((List Int)) :=
  column_pack_b2 y296 x301 l10485
noncomputable def column_pack_b3 (x9533 : Int) (x11317 : Int) (l11318 : (List Int)) : Option ((Int × (List Int) × Int) ⊕ (((List Int)))) :=
  ltt (IntKind.i64.wrap (x9533 + 1)) fun x11319 => (some (.inl (x11317, l11318, x11319)))
noncomputable def column_pack_x2_4 (x9533 : Int) (x11397 : Int) (l11398 : (List Int)) : Option ((Int × (List Int) × Int) ⊕ (((List Int)))) :=
  column_pack_b3 x9533 x11397 l11398
noncomputable def column_pack_l2 (y107 : (Int)) (x294 : Int) (x11199 : Int) (x11357 : Int) (l11358 : (List Int)) (x11359 : Int) : Option ((Int × (List Int) × Int) ⊕ ((Int × (List Int)))) :=
  if (decide (x11359 < x294)) = true then (ltt (IntKind.i64.wrap (x11357.tdiv 8)) fun x11407 => ((at_ l11358 x11407).bind fun x11409 => (ltt (IntKind.i64.wrap (x11199 - y107)) fun x11412 => (ltt (IntKind.u64.wrap x11412) fun x11414 => (chk (0 ≤ x11359) (ltt (ishr .u64 x11414 x11359) fun x11417 => (ltt (iand .u64 x11417 1) fun x11419 => (ltt (IntKind.u8.wrap x11419) fun x11421 => (ltt (x11357.tmod 8) fun x11423 => (chk (0 ≤ x11423) (ltt (ishl .u8 x11421 x11423) fun x11426 => (ltt (ior .u8 x11409 x11426) fun x11428 => (ltt (IntKind.i64.wrap (x11357 + 1)) fun x11430 => (ltt (IntKind.i64.wrap (x11359 + 1)) fun x11432 => (some (.inl (x11430, l11358.set x11407.toNat x11428, x11432))))))))))))))))) else (some (.inr (x11357, l11358)))
noncomputable def column_pack_l1 (a1 : (List Int)) (y107 : (Int)) (x294 : Int) (x9531 : Int) (l9532 : (List Int)) (x9533 : Int) : Option ((Int × (List Int) × Int) ⊕ (((List Int)))) :=
  if (decide (x9533 < (a1.length : Int))) = true then ((at_ a1 x9533).bind fun x11199 => ((loop (fun s => column_pack_l2 y107 x294 x11199 s.1 s.2.1 s.2.2) (x9531, l9532, 0)).bind fun t => column_pack_x2_4 x9533 t.1 t.2)) else (some (.inr (l9532)))
noncomputable def column_pack_b1 (a0 : (List Int)) (a1 : (List Int)) (y107 : (Int)) (x294 : Int) : Option ((List Int)) :=
  (column_Int a0 y107).bind fun y296 => (ltt (IntKind.u8.wrap x294) fun x301 => (chk (y296.length + [x301].length ≤ 140737488355328 / 1) (ltt (IntKind.i64.wrap ((a1.length : Int) * x294)) fun x310 => (ltt (IntKind.i64.wrap (x310 + 7)) fun x312 => (ltt (IntKind.i64.wrap (x312.tdiv 8)) fun x314 => (chk (0 ≤ x314 ∧ (1 : Int) * x314 ≤ 140737488355328) ((loop (fun s => column_pack_l1 a1 y107 x294 s.1 s.2.1 s.2.2) (0, List.replicate x314.toNat (0 : Int), 0)).bind fun t => column_pack_x1_2 y296 x301 t)))))))
noncomputable def column_pack_x3_0 (a0 : (List Int)) (a1 : (List Int)) (y107 : (Int)) (x11474 : Int) : Option ((List Int)) :=
  column_pack_b1 a0 a1 y107 x11474
noncomputable def column_pack_l3 (a1 : (List Int)) (y107 : (Int)) (x11453 : Int) (x11454 : Int) : Option ((Int × Int) ⊕ ((Int))) :=
  if (decide (x11454 < (a1.length : Int))) = true then ((at_ a1 x11454).bind fun x11482 => (ltt (IntKind.i64.wrap (x11482 - y107)) fun x11485 => (ltt (IntKind.u64.wrap x11485) fun x11487 => ((bits_Len64 x11487).bind fun y11489 => (ltt (IntKind.i64.wrap (x11454 + 1)) fun x11491 => (some (.inl (if x11453 < y11489 then y11489 else x11453, x11491)))))))) else (some (.inr (x11453)))
noncomputable def column_pack (a0 : (List Int)) (a1 : (List Int)) : Option ((List Int)) :=
  if ((a1.length : Int) == 0) = true then (some a0) else ((slices_Min_int64_int64 a1).bind fun y107 => ((loop (fun s => column_pack_l3 a1 y107 s.1 s.2) (0, 0)).bind fun t => column_pack_x3_0 a0 a1 y107 t))
noncomputable def column_As_b1 (l7786 : (List Int)) : Option ((List Int)) :=
  some l7786
noncomputable def column_As_b2 (l7863 : (List Int)) : Option ((List Int)) :=
  column_As_b1 l7863
noncomputable def column_As_x1_1 (l7914 : (List Int)) : Option ((List Int)) :=
  column_As_b2 l7914
noncomputable def column_As_l1 (a1 : (List Int)) (l7888 : (List Int)) (x7892 : Int) : Option (((List Int) × Int) ⊕ (((List Int)))) :=
  if (decide (x7892 < (a1.length : Int))) = true then ((at_ a1 x7892).bind fun x7925 => ((column_Int l7888 x7925).bind fun y7928 => (ltt (IntKind.i64.wrap (x7892 + 1)) fun x7933 => (some (.inl (y7928, x7933)))))) else (some (.inr (l7888)))
noncomputable def column_As_b3 (l8020 : (List Int)) : Option ((List Int)) :=
  column_As_b1 l8020
noncomputable def column_As_x2_3 (l8080 : (List Int)) : Option ((List Int)) :=
  column_As_b3 l8080
noncomputable def column_As_l2 (a1 : (List Int)) (l8049 : (List Int)) (x8053 : Int) (x8054 : Int) : Option (((List Int) × Int × Int) ⊕ (((List Int)))) :=
  if (decide (x8054 < (a1.length : Int))) = true then ((at_ a1 x8054).bind fun x8091 => (ltt (IntKind.i64.wrap (x8091 - x8053)) fun x8095 => ((column_Int l8049 x8095).bind fun y8097 => (ltt (IntKind.i64.wrap (x8054 + 1)) fun x8102 => (some (.inl (y8097, x8091, x8102))))))) else (some (.inr (l8049)))
noncomputable def column_As_b4 (l9220 : (List Int)) : Option ((List Int)) :=
  column_As_b1 l9220
noncomputable def column_As_x3_5 (l9967 : (List Int)) : Option ((List Int)) :=
  column_As_b4 l9967
noncomputable def column_As_b5 (a1 : (List Int)) (l9593 : (List Int)) (x9597 : Int) (x10231 : Int) : Option (((List Int) × Int) ⊕ (((List Int)))) :=
  (at_ a1 x9597).bind fun x10233 => ((column_Int l9593 x10233).bind fun y10236 => (ltt (IntKind.i64.wrap (x10231 - 1)) fun x10241 => (ltt (IntKind.u64.wrap x10241) fun x10243 => ((column_Uint y10236 x10243).bind fun y10245 => (ltt (IntKind.i64.wrap (x9597 + x10231)) fun x10250 => (some (.inl (y10245, x10250))))))))
noncomputable def column_As_x4_7 (a1 : (List Int)) (l9593 : (List Int)) (x9597 : Int) (x10307 : Int) : Option (((List Int) × Int) ⊕ (((List Int)))) :=
  column_As_b5 a1 l9593 x9597 x10307
noncomputable def column_As_j1 (x10279 : Int) (b10320 : Bool) : Option ((Int) ⊕ ((Int))) :=
  if b10320 = true then (ltt (IntKind.i64.wrap (x10279 + 1)) fun x10323 => (some (.inl (x10323)))) else (some (.inr (x10279)))
noncomputable def column_As_l4 (a1 : (List Int)) (x9597 : Int) (x10279 : Int) : Option ((Int) ⊕ ((Int))) :=
  ltt (IntKind.i64.wrap (x9597 + x10279)) fun x10325 => (if (decide (x10325 < (a1.length : Int))) = true then ((at_ a1 x10325).bind fun x10328 => ((at_ a1 x9597).bind fun x10331 => (column_As_j1 x10279 (x10328 == x10331)))) else (column_As_j1 x10279 false))
noncomputable def column_As_l3 (a1 : (List Int)) (l9593 : (List Int)) (x9597 : Int) : Option (((List Int) × Int) ⊕ (((List Int)))) :=
  if (decide (x9597 < (a1.length : Int))) = true then ((loop (fun s => column_As_l4 a1 x9597 s) (1)).bind fun t => column_As_x4_7 a1 l9593 x9597 t) else (some (.inr (l9593)))
noncomputable def column_As (a0 : Int) (a1 : (List Int)) : Option ((List Int)) :=
  ltt (IntKind.u64.wrap (a1.length : Int)) fun x104 => ((column_Uint [a0] x104).bind fun y106 => (if (a0 == 0) = true then ((loop (fun s => column_As_l1 a1 s.1 s.2) (y106, 0)).bind fun t => column_As_x1_1 t) else (if (a0 == 1) = true then ((loop (fun s => column_As_l2 a1 s.1 s.2.1 s.2.2) (y106, 0, 0)).bind fun t => column_As_x2_3 t) else (if (a0 == 2) = true then ((loop (fun s => column_As_l3 a1 s.1 s.2) (y106, 0)).bind fun t => column_As_x3_5 t) else (if (a0 == 3) = true then ((column_pack y106 a1).bind fun y10336 => (column_As_b1 y10336)) else (column_As_b1 y106))))))
noncomputable def column_Ints_b1 (l628 : (List Int)) : Option ((List Int)) :=
  some l628
noncomputable def column_Ints_x1_0 (l748 : (List Int)) : Option ((List Int)) :=
  column_Ints_b1 l748
noncomputable def column_Ints_b2 (x692 : Int) (l788 : (List Int)) : Option (((List Int) × Int) ⊕ (((List Int)))) :=
  ltt (IntKind.u8.wrap (x692 + 1)) fun x792 => (some (.inl (l788, x792)))
noncomputable def column_Ints_l1 (a0 : (List Int)) (l688 : (List Int)) (x692 : Int) : Option (((List Int) × Int) ⊕ (((List Int)))) :=
  if (decide (x692 ≤ 3)) = true then ((column_As x692 a0).bind fun y795 => (if (decide ((y795.length : Int) < (l688.length : Int))) = true then (column_Ints_b2 x692 y795) else (column_Ints_b2 x692 l688))) else (some (.inr (l688)))
noncomputable def column_Ints (a0 : (List Int)) : Option ((List Int)) :=
  (column_As 0 a0).bind fun y103 => ((loop (fun s => column_Ints_l1 a0 s.1 s.2) (y103, 1)).bind fun t => column_Ints_x1_0 t)
end Go.Proofs.YteodeedejjcmgaaDoor.M
