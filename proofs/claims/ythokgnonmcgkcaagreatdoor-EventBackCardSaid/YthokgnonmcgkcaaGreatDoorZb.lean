/- Texts of the claim, joined: what it uses of El, Em, En, Eo, Ep, Eh, Eq, Er, Ds, Kd, Gr, Op, Des. -/
import Derived.Test.YthokgnonmcgkcaaGreatDoorZa
import Derived.Laws.Strings2
import Derived.Deep.Slices
import Derived.Deep.Fields
import Derived.SizedLaws
import Derived.Below
import Derived.Carry
import Derived.WalkKit
import Derived.ProofKit
import Derived.OpenShut
import Derived.ShutString
import Derived.ChangeOld
import Derived.FnData
import Derived.LaidMore
import Derived.LaidLaws
import Derived.MakeChecks
import Derived.Lib.SlicesCompact
import Derived.Sort.OwnSorted
import Derived.Shelf.SlIter.Collect
import Derived.Test.YthokgnonmcgkcaaGreatDoorProg
namespace Go.Proofs.YthokgnonmcgkcaaGreatDoor.E
open Go Go.RowKit Go.Lib
set_option linter.unusedVariables false
set_option linter.unusedSimpArgs false
section
variable {P : Program} {ops : Array Oper} {Q : Exit → Act → World → Prop} {rest : List Oper} {o : Oper} {a : Act} {w w' : World} {K : Act → World → Prop} {r : World} {L : List HP} {α : Type} {d : Kd α} {e t' t2 : TypeId} {n : Nat} {D : List Deferred} {t : Nat} {v : Value} {F : List (Nat × Value)}
  {c g k : Nat} {os : List (Option α)} {x y lo_ hi_ mx_ : Operand} {A A2 : Option Addr} {n1 c1 n2 c2 : Nat} {xs ys : List α} {L' : List HP}
section
variable {lo sz : Nat} {l u mx : Int} {kl kh km : IntKind} {m : Nat} (hu : P.underlying t' = some (.slice e)) (hi' : (P.info? e).map (·.size) = some sz)
include hu hi'
omit hu hi' in
end
end
end Go.Proofs.YthokgnonmcgkcaaGreatDoor.E
namespace Go.Proofs.YthokgnonmcgkcaaGreatDoor.E
open Go Go.RowKit
set_option linter.unusedVariables false
set_option linter.unusedSimpArgs false
section
variable {r w : World} {L : List HP} {α β : Type} {dp : Kd (α × Hd)} {d : Kd β} {e e' : TypeId} {g : α → List β} {A : Option Addr} {n c : Nat} {xs : List α} {ps : List (α × Hd)}
theorem Lay.put {p p' : α × Hd} (hV : ∀ cs, dp.V p cs → dp.V p' cs) : ∀ {ps : List (α × Hd)} {i : Nat} {cs : List Value}, Lay dp ps cs → ps[i]? = some p → Lay dp (ps.set i p') cs
  | [], i, cs, h, hp => by simp at hp
  | q :: ps, 0, cs, ⟨c1, c2, e, hV1, hL⟩, hp => by cases hp; exact ⟨c1, c2, e, hV _ hV1, hL⟩
  | q :: ps, i + 1, cs, ⟨c1, c2, e, hV1, hL⟩, hp => ⟨c1, c2, e, hV1, Lay.put hV hL (by simpa using hp)⟩
end
end Go.Proofs.YthokgnonmcgkcaaGreatDoor.E
namespace Go.Proofs.YthokgnonmcgkcaaGreatDoor.E
open Go Go.RowKit
set_option linter.unusedVariables false
set_option linter.unusedSimpArgs false
section
variable {P : Program} {ops : Array Oper} {Q : Exit → Act → World → Prop} {rest : List Oper} {o : Oper} {a : Act} {w : World} {n : Nat} {D : List Deferred} {t : Nat} {F : List (Nat × Value)} {t' : TypeId} {x lo_ hi_ : Operand} {s ys : List UInt8} {l u : Int} {kl kh : IntKind}
theorem z_alloc {T : TypeId} {r : World} {L : List HP} {K : Act → World → Prop} {cs : List Value} {z : Value} (hz : (P.info? T).bind (·.zero) = some z) (hA : FR n D a F) (hS : SH r L w) (kk : ∀ g w', SH r (blk g T cs :: L) w' → K (a.put o.dst (.pointer (some ⟨g, 0, none⟩))) w')
    (ho : o.op = .alloc T := by rfl) (hcs : z.cells = cs.toArray := by rfl) : o.wp P a w K Q := e_alloc hS ho hz hcs kk
end
end Go.Proofs.YthokgnonmcgkcaaGreatDoor.E
namespace Go.Proofs.YthokgnonmcgkcaaGreatDoor.E
open Go Go.RowKit
set_option linter.unusedVariables false
set_option linter.unusedSimpArgs false
section
variable {P : Program} {ops : Array Oper} {Q : Exit → Act → World → Prop} {rest : List Oper} {o : Oper} {a : Act} {w : World} {K : Act → World → Prop} {r : World} {L L' : List HP} {t e : TypeId} {x : Operand} {A : Option Addr} {n c : Nat} {xs : List Int}
end
end Go.Proofs.YthokgnonmcgkcaaGreatDoor.E
namespace Go.Proofs.YthokgnonmcgkcaaGreatDoor.E
open Go Go.RowKit
set_option linter.unusedVariables false
set_option linter.unusedSimpArgs false
section
variable {P : Program} {ops : Array Oper} {Q : Exit → Act → World → Prop} {rest : List Oper} {o : Oper} {a : Act} {w : World} {K : Act → World → Prop} {r : World} {L L' : List HP} {t e T xt yt t' : TypeId} {x y : Operand} {A : Option Addr} {n c m : Nat} {xs : List Int} {s : List UInt8} {v : Value}
end
section
variable {Z : Nat → Prop} {wz : World} {L : List HP} {α : Type} {d : Kd α} {A : Option Addr} {n c : Nat} {xs ys : List α} {l u : Int}
theorem rv_e {P : Program} {o : Oper} {a : Act} {w : World} {v v' : Value} (h : v = v') (hr : RunV P o a w v') : RunV P o a w v := h ▸ hr
theorem imm_hc (h : Imm Z wz d A n c xs) (hx : cut_ xs 0 u = some ys) : ∃ A' n' c', Value.slice A' n' c' = .slice A u.toNat c ∧ Imm Z wz d A' n' c' ys := ⟨_, _, _, rfl, imm_h h hx⟩
theorem imm_lc (h : Imm Z wz d A n c xs) (hx : cut_ xs l (xs.length : Int) = some ys) : ∃ A' n' c', Value.slice A' n' c' = .slice (if c = l.toNat then A else A.map (·.add (l.toNat * d.sz))) (n - l.toNat) (c - l.toNat) ∧ Imm Z wz d A' n' c' ys := ⟨_, _, _, rfl, imm_l h hx⟩
theorem imm_lhc (h : Imm Z wz d A n c xs) (hx : cut_ xs l u = some ys) : ∃ A' n' c', Value.slice A' n' c' = .slice (if c = l.toNat then A else A.map (·.add (l.toNat * d.sz))) (u.toNat - l.toNat) (c - l.toNat) ∧ Imm Z wz d A' n' c' ys := ⟨_, _, _, rfl, imm_lh h hx⟩
theorem lv4 {P : Program} {a : Act} {w : World} {n : Nat} {F : List (Nat × Value)} {fn : Func} {R : Value → World → Prop} {t u q s : Nat} {v1 v2 v3 v4 : Value} (hr : fn.results = #[.tmp t, .tmp u, .tmp q, .tmp s]) (hA : FR n [] a F) (h1 : lk F t = some v1) (h2 : lk F u = some v2) (h3 : lk F q = some v3) (h4 : lk F s = some v4) (h : R (.tuple #[v1, v2, v3, v4]) w) : bodyPost P fn (fun e w' => ∃ v, e = .returned v ∧ R v w') .ret a w :=
  bodyPost_ret (v := .tuple #[v1, v2, v3, v4]) (by
    have e1 : a.tmps.getD t undef = v1 := hA.ev (x := .tmp t) h1
    have e2 : a.tmps.getD u undef = v2 := hA.ev (x := .tmp u) h2
    have e3 : a.tmps.getD q undef = v3 := hA.ev (x := .tmp q) h3
    have e4 : a.tmps.getD s undef = v4 := hA.ev (x := .tmp s) h4
    rw [← e1, ← e2, ← e3, ← e4]
    simp [results, hr]) hA.defers ⟨_, rfl, h⟩
end
section
variable {P : Program} {ops : Array Oper} {Q : Exit → Act → World → Prop} {rest : List Oper} {o : Oper} {a : Act} {w : World} {r : World} {L : List HP} {t e T t' : TypeId} {x y : Operand} {α : Type} {d : Kd α} {xs : List α} {k : IntKind} {i : Int}
theorem blk_own {g : Nat} {cells : List Value} {m : Nat} (hL : Lay d xs cells) (hm : xs.length = m) (hmx : Nat.ble m 65536 = true) (h : SH r (blk g T cells :: L) w) : SH r (own d T (some ⟨g, 0, none⟩) m m xs :: L) w := by
  have := Nat.le_of_ble_eq_true hmx
  have hl := hL.length
  refine h.imp fun S hS => own_new hS.2 hS.1 hm (by omega) (by simp only [maxLen]; omega) (by simp [hl, hm]) ?_
  rw [← hl]
  simpa using hL
theorem r_iaA {g m sz : Nat} (hu : P.underlying t = some (.array m e)) (hi : (P.info? e).map (·.size) = some sz) (ho : o.op = .indexAddr t x y) (hx : a.eval x = .pointer (some ⟨g, 0, none⟩)) (hy : a.eval y = .int k i)
    (h0 : 0 ≤ i) (h1 : i < (m : Int)) : RunV P o a w (.pointer (some (ea (some ⟨g, 0, none⟩) (i.toNat * sz)))) := by
  unfold RunV execOp; rw [ho]
  obtain ⟨q, hq1, hq2⟩ := Option.map_eq_some_iff.1 hi
  simp [hx, hy, Instr.indexAt, asIntOf, run_underlying hu, h0, h1, sizeOf, typeInfo, hq1, hq2, ea, Instr.sureAddr]
theorem y_iaA {D : List Deferred} {n : Nat} {F : List (Nat × Value)} {g m c sz : Nat} {z : α} (hu : P.underlying t = some (.array m e)) (hi : (P.info? e).map (·.size) = some sz) (hr : Rd d w (some ⟨g, 0, none⟩) xs ∧ xs.length = m ∧ m ≤ c ∧ c ≤ maxLen) (hz : at_ xs i = some z) (hA : FR n D a F)
    (ho : o.op = .indexAddr t x y := by rfl) (hx : ev F x = some (.pointer (some ⟨g, 0, none⟩)) := by rfl) (hy : ev F y = some (.int k i) := by rfl) : RunV P o a w (.pointer (some (ea (some ⟨g, 0, none⟩) (i.toNat * sz)))) :=
  have h := at_some hz
  r_iaA hu hi ho (hA.ev hx) (hA.ev hy) h.1 (by have := hr.2.1; omega)
theorem x_iaA {D : List Deferred} {n q : Nat} {F : List (Nat × Value)} {g m c sz : Nat} {z : α} (hu : P.underlying t = some (.array m e)) (hi : (P.info? e).map (·.size) = some sz) (hr : Rd d w (some ⟨g, 0, none⟩) xs ∧ xs.length = m ∧ m ≤ c ∧ c ≤ maxLen) (hz : at_ xs i = some z) (hA : FR n D a F)
    (kk : ∀ a', FR n D a' ((q, .pointer (some (ea (some ⟨g, 0, none⟩) (i.toNat * sz)))) :: F) → wpList P ops Q rest a' w)
    (ho : o.op = .indexAddr t x y := by rfl) (hx : ev F x = some (.pointer (some ⟨g, 0, none⟩)) := by rfl) (hy : ev F y = some (.int k i) := by rfl) (hd : o.dst = some q := by rfl) (hg : o.guard = none := by rfl) (ht : Nat.blt q n = true := by rfl) : wpList P ops Q (o :: rest) a w :=
  x_val hA (y_iaA hu hi hr hz hA ho hx hy) kk hd hg ht
end
end Go.Proofs.YthokgnonmcgkcaaGreatDoor.E
namespace Go.Proofs.YthokgnonmcgkcaaGreatDoor.E
open Go Go.RowKit Go.ChangeShapes Go.WideShapes Go.Deep
set_option linter.unusedVariables false
set_option linter.unusedSimpArgs false
def Wt {H : Type} (P : Program) (t : TypeId) (d : DataW H) : Prop := ∀ n ∈ d.weights P t, n ≤ reachBytes
def HeapZ (W : World) : Nat → Prop := fun k => k < W.heap.size
def Opens {α : Type} (P : Program) (W : World) (t : TypeId) (d : Kd α) (g : α → Prop) : Prop :=
  ∀ (H : Type) (enc : TypeId × Value → H) (held : Bool) (fuel : Nat) (cs : List Value) (x : DataW H × List MemPlace),
    DataW.trod enc P W 0 (fun _ => true) held fuel t cs = some x → Wt P t x.1 → ∃ a, d.V a cs ∧ g a
def gI (k : IntKind) (n : Int) : Prop := (Lit.int k n).wf = true
def gB (_ : Bool) : Prop := True
def gS (s : List UInt8) : Prop := s.length ≤ reachBytes
def gF (b : Nat) : Prop := (Lit.float .f64 b).wf = true
def gL {α : Type} (by_ : Nat) (g : α → Prop) (xs : List α) : Prop := xs.length * by_ ≤ reachBytes ∧ ∀ x ∈ xs, g x
section
variable {P : Program} {W : World} {t e : TypeId}
theorem opI {k : IntKind} (hu : P.underlying t = some (.int k)) : Opens P W t (kI k) (gI k) := by
  intro H enc held fuel cs x h _
  obtain ⟨n, hc, _, hw⟩ := DataW.trod_int hu h
  exact ⟨n, hc, hw⟩
theorem opS (hu : P.underlying t = some .string) : Opens P W t kS gS := by
  intro H enc held fuel cs x h hw
  obtain ⟨s, hc, hx, _⟩ := DataW.trod_string hu h
  refine ⟨s.data.toList, by rw [hc]; rfl, ?_⟩
  have := hw s.data.toList.length (by rw [hx]; simp [DataW.weights])
  exact this
theorem trod_float {H : Type} {enc : TypeId × Value → H} {base : Nat} {spare : Nat → Bool} {held : Bool} {fuel : Nat} {cs : List Value} {x : DataW H × List MemPlace} {k : FloatKind}
    (ht : P.underlying t = some (.float k)) (h : DataW.trod enc P W base spare held fuel t cs = some x) : ∃ b, cs = [.float k b] ∧ (Lit.float k b).wf = true := by
  cases fuel with
  | zero => simp [DataW.trod] at h
  | succ n =>
    unfold DataW.trod at h
    rw [ht] at h
    split at h <;> simp_all
theorem opF (hu : P.underlying t = some (.float .f64)) : Opens P W t kF gF := by
  intro H enc held fuel cs x h hw
  obtain ⟨b, hc, hwf⟩ := trod_float hu h
  exact ⟨b, hc, hwf⟩
theorem pick_list {α : Type} {Q : Nat → α → Prop} : ∀ (n : Nat), (∀ i, i < n → ∃ a, Q i a) → ∃ xs : List α, xs.length = n ∧ ∀ i x, xs[i]? = some x → Q i x
  | 0, _ => ⟨[], rfl, fun i x h => by simp at h⟩
  | n + 1, h => by
    obtain ⟨xs, hl, hx⟩ := pick_list n fun i hi => h i (by omega)
    obtain ⟨a, ha⟩ := h n (by omega)
    refine ⟨xs ++ [a], by simp [hl], fun i x hi => ?_⟩
    rw [List.getElem?_append] at hi
    split at hi
    · exact hx i x hi
    · rename_i hge
      have : i - xs.length = 0 := by
        have := (List.getElem?_eq_some_iff.1 hi).1
        simp at this
        omega
      rw [this] at hi
      simp at hi
      subst hi
      rw [show i = n by omega]
      exact ha
theorem opSl {α : Type} {d : Kd α} {g : α → Prop} {by_ : Nat} (hu : P.underlying t = some (.slice e)) (hc : P.cellsOf e = d.sz) (hz : 0 < d.sz) (hb : P.bytesOf e = by_) (he : Opens P W e d g) :
    Opens P W t (kM (HeapZ W) W d) (gL by_ g) := by
  intro H enc held fuel cs x h hw
  rcases open_slice hu h with ⟨rfl, rfl⟩ | ⟨a, len, cap, m, n, D, Pl, rfl, _, hl, hm, hmm, rfl, hi⟩
  · exact ⟨[], ⟨none, 0, 0, rfl, Imm.nil⟩, by simp, fun x h => by simp at h⟩
  · simp only [if_true] at hmm
    subst hmm
    have hwt : ∀ i, i < m → Wt P e (D i) := by
      intro i him q hq
      refine hw q ?_
      simp only [DataW.weights, hu, List.mem_cons, List.mem_append]
      have key : ∀ (l : List Nat), (∃ j ∈ l, q ∈ (D j).weights P e) → q ∈ DataW.weightsAll P e (l.map D) := by
        intro l
        induction l with
        | nil => rintro ⟨j, hj, _⟩; simp at hj
        | cons a l ih =>
          rintro ⟨j, hj, hq⟩
          simp only [List.map_cons, DataW.weightsAll, List.mem_append]
          rcases List.mem_cons.1 hj with rfl | hj
          · exact .inl hq
          · exact .inr (ih ⟨j, hj, hq⟩)
      rcases Nat.lt_or_ge i len with hil | hil
      · exact .inr (.inl (key _ ⟨i, List.mem_range.2 hil, hq⟩))
      · refine .inr (.inr ?_)
        have : (List.range (m - len)).map (fun j => D (len + j)) = ((List.range (m - len)).map (len + ·)).map D := by simp [Function.comp_def]
        rw [this]
        exact key _ ⟨i, List.mem_map.2 ⟨i - len, List.mem_range.2 (by omega), by omega⟩, hq⟩
    obtain ⟨xs, hxl, hx⟩ := pick_list (Q := fun i y => g y ∧ ∃ cs', d.V y cs' ∧ a.block < W.heap.size ∧ ∀ q u, cs'[q]? = some u → W.cell? (a.add (i * d.sz + q)) = some u) len (fun i hil => by
      obtain ⟨cs', hcell, ht⟩ := hi i (by omega)
      obtain ⟨y, hV, hg⟩ := he H enc held n cs' _ ht (hwt i (by omega))
      rw [hc] at hcell
      obtain ⟨_, hcl, hat⟩ := World.cells?_some hcell
      have hq : ∀ q u, cs'[q]? = some u → W.cell? (a.add (i * d.sz + q)) = some u := by
        intro q u hu
        have hql := (List.getElem?_eq_some_iff.1 hu).1
        rw [← Go.Proofs.YthokgnonmcgkcaaGreatDoor.E.add_add', hat q (by omega), hu]
      refine ⟨y, hg, cs', hV, ?_, hq⟩
      have h0 := hq 0 _ (List.getElem?_eq_getElem (by omega))
      have hb : ∀ k, (a.add k).block = a.block := fun k => add_block a k
      unfold World.cell? at h0
      rw [hb] at h0
      rcases hh : W.heap[a.block]? with _ | o
      · rw [hh] at h0; cases h0
      · exact (Array.getElem?_eq_some_iff.1 hh).1)
    refine ⟨xs, ⟨some a, len, m, rfl, hxl, by omega, hm, fun hpos => ⟨a, rfl, ?_, fun j y hy => ?_⟩⟩, ?_, fun y hy => ?_⟩
    · obtain ⟨_, cs', _, hblk, _⟩ := hx 0 _ (List.getElem?_eq_getElem hpos)
      exact hblk
    · obtain ⟨_, cs', hV, _, hq⟩ := hx j y hy
      exact ⟨cs', hV, hq⟩
    · have := hw ((((List.range len).map D).length + ((List.range (m - len)).map fun j => D (len + j)).length) * P.bytesOf e) (by simp only [DataW.weights, hu]; exact List.mem_cons_self)
      rw [hb] at this
      simp only [List.length_map, List.length_range] at this
      rw [hxl]
      exact Nat.le_trans (Nat.mul_le_mul_right _ (by omega)) this
    · obtain ⟨j, hj⟩ := List.getElem?_of_mem hy
      exact (hx j y hj).1
theorem fld {H : Type} {enc : TypeId × Value → H} {held : Bool} {fs : Array Field} {ys : List (DataW H × List MemPlace)} {n : Nat} {cs : List Value} (hu : P.underlying e = some (.struct fs))
    (hf : ∀ (i : Nat) (f : Field), fs[i]? = some f → DataW.trod enc P W 0 (fun _ => true) held n f.type ((cs.drop f.offset).take (P.cellsOf f.type)) = ys[i]?) (hyl : ys.length = fs.size)
    (hw : Wt P e (.agg (ys.map (·.1)))) (i : Nat) {f : Field} (hi : fs[i]? = some f) {o c : Nat} (ht : f.type = t) (ho : f.offset = o) (hc : P.cellsOf t = c) {α : Type} {d : Kd α} {g : α → Prop} (hO : Opens P W t d g) :
    ∃ a, d.V a ((cs.drop o).take c) ∧ g a := by
  have hlt := (Array.getElem?_eq_some_iff.1 hi).1
  have h := hf i f hi
  subst ht ho hc
  rw [List.getElem?_eq_getElem (by omega)] at h
  refine hO H enc held n _ _ h fun q hq => hw q ?_
  simp only [DataW.weights, hu]
  refine DataW.weights_mem_each (j := i) (t := f.type) (d := (ys[i]'(by omega)).1) ?_ ?_ q hq
  · rw [List.getElem?_map, Array.getElem?_toList, hi]; rfl
  · rw [List.getElem?_map, List.getElem?_eq_getElem (by omega)]; rfl
theorem Opens.arg {H : Type} {enc : TypeId × Value → H} {held : Bool} {v : Value} {x : DataW H} {p : List MemPlace} {α : Type} {d : Kd α} {g : α → Prop} (hO : Opens P W t d g)
    (h : DataW.Trod enc P W 0 (fun _ => true) held t v x p) (hw : Wt P t x) : ∃ a, d.V a v.cells.toList ∧ g a := by
  obtain ⟨fuel, h⟩ := h
  exact hO H enc held fuel _ _ h hw
theorem SH.start (W : World) : SH W [zone (HeapZ W) W] W :=
  ⟨rfl, rfl, rfl, fun k => k < W.heap.size, fun _ => False, fun _ h => h, fun _ h => h.elim, fun _ _ h => h, ⟨fun _ h => h, fun _ _ => rfl⟩, trivial⟩
theorem SH.below {W w' : World} {Z : Nat → Prop} {wz : World} {L : List HP} (h : SH W (zone Z wz :: L) w') (hs : Sub (HeapZ W) W Z wz) : Below W.heap.size W w' := by
  obtain ⟨S1, S2, h1, h2, hd, hA, hL⟩ := h.sep
  refine ⟨h.os, h.tape, h.output, ?_, fun k hk => (hA.2 k (hs k hk).1).trans (hs k hk).2⟩
  rcases Nat.eq_zero_or_pos W.heap.size with h0 | h0
  · omega
  · have := h1 _ (hA.1 _ (hs (W.heap.size - 1) (show W.heap.size - 1 < W.heap.size by omega)).1)
    omega
theorem Wt.of {H : Type} {ts : List TypeId} {ds : List (DataW H)} (h : (DataW.weightsEach P ts ds).all (· ≤ reachBytes) = true) {j : Nat} {d : DataW H} (ht : ts[j]? = some t) (hd : ds[j]? = some d) : Wt P t d := by
  intro n hn
  have := List.all_eq_true.1 h _ (DataW.weights_mem_each ht hd n hn)
  simpa using this
end
end Go.Proofs.YthokgnonmcgkcaaGreatDoor.E
namespace Go.Proofs.YthokgnonmcgkcaaGreatDoor.E
open Go Go.RowKit
theorem tab_imm {P : Program} {W : World} {nm : String} {g t e n : Nat} {k : IntKind} {xs : List Int} (hg : P.globalNamed nm = some g) (ht : (P.globals[g]?).map (·.type) = some t)
    (hu : P.underlying t = some (.array n e)) (he : P.underlying e = some (.int k)) (hce : P.cellsOf e = 1) (hn : xs.length = n) (hm : n ≤ maxLen)
    (h : laidMet P [(nm, .agg (xs.map fun x => .lit (.int k x)))] W) : Imm (HeapZ W) W (kI k) (some ⟨g, 0, none⟩) n n xs := by
  obtain ⟨ps, ⟨g0, t0, cs, f0, p, q, hg0, ht0, hv, hd, _, _⟩, _, _⟩ := h
  obtain rfl := Option.some.inj (hg.symm.trans hg0)
  obtain rfl := Option.some.inj (ht.symm.trans ht0)
  obtain ⟨ys, m, rfl, hx, hl, hyn, hel⟩ := DataW.trod_array hu hd
  have hb : g < W.heap.size := by
    simp only [World.var?, hg, Option.bind_some] at hv
    split at hv
    · rename_i hq; exact (Array.getElem?_eq_some_iff.1 hq).1
    · cases hv
  have hx1 : xs.map (fun x => (DataW.lit (.int k x) : DataW Unit)) = ys.map (·.1) := by
    simp only [Prod.mk.injEq, DataW.agg.injEq] at hx; exact hx.1
  refine ⟨hn, by omega, hm, fun _ => ⟨_, rfl, hb, fun j x hj => ⟨[.int k x], rfl, fun q u hq => ?_⟩⟩⟩
  have hjn : j < n := by have := (List.getElem?_eq_some_iff.1 hj).1; omega
  have h1 := hel j hjn
  rw [hce] at h1
  have h2 : (ys.map (·.1))[j]? = some (.lit (.int k x)) := by rw [← hx1, List.getElem?_map, hj]; rfl
  rw [List.getElem?_map] at h2
  cases hy : ys[j]? with
  | none => rw [hy] at h2; cases h2
  | some y =>
    rw [hy] at h2 h1
    obtain ⟨z, e1, e2, _⟩ := DataW.trod_int he h1
    have hz : z = x := by rw [e2] at h2; simpa using h2
    subst hz
    match q, hq with
    | 0, hq =>
      have hu0 : Value.int k z = u := by simpa using hq
      subst hu0
      have hc := World.var?_cell hg hv j
      have h3 : (cs.toList.drop (j * 1))[0]? = some (.int k z) := by
        have h4 : ((cs.toList.drop (j * 1)).take 1)[0]? = some (.int k z) := by rw [e1]; rfl
        rw [List.getElem?_take_of_lt (by omega)] at h4; exact h4
      rw [List.getElem?_drop] at h3
      have h5 : cs[j]? = some (.int k z) := by
        rw [← Array.getElem?_toList]; rw [show j * 1 + 0 = j by omega] at h3; exact h3
      have h6 : (({ block := g, off := 0 } : Addr).add (j * (kI k).sz + 0)) = ⟨g, j, none⟩ := by
        show Addr.add ⟨g, 0, none⟩ (j * 1 + 0) = ⟨g, j, none⟩
        unfold Addr.add
        split
        · rename_i hz; rw [show j = 0 by omega]
        · simp
      rw [h6, hc, h5]
    | q + 1, hq => simp at hq
end Go.Proofs.YthokgnonmcgkcaaGreatDoor.E
namespace Go.Proofs.YthokgnonmcgkcaaGreatDoor.E
open Go Go.RowKit
set_option linter.unusedVariables false
theorem lay_kS : ∀ xs : List (List UInt8), Lay kS xs (xs.map encStr)
  | [] => rfl
  | x :: xs => ⟨[str x], _, rfl, rfl, lay_kS xs⟩
theorem lay_kS_eq : ∀ {xs : List (List UInt8)} {cs : List Value}, Lay kS xs cs → cs = xs.map encStr
  | [], cs, h => h
  | x :: xs, cs, ⟨c1, c2, e, h1, h2⟩ => by
    have h1' : c1 = [str x] := h1
    rw [e, h1', lay_kS_eq h2]; rfl
theorem compact_len {α : Type} [Inhabited α] [DecidableEq α] (xs : List α) : (Lib.compact xs).length ≤ xs.length := by
  unfold Lib.compact Lib.compactUpTo
  rw [List.length_map]
  exact Nat.le_trans (List.length_filter_le _ _) (by simp)
theorem SH.newrow {α : Type} {r w w' : World} {L : List HP} {d : Kd α} {e : TypeId} {v : Value} {xs : List α} {inner : List Value} (h : SH r L w) (hb : Below w.heap.size w w')
    (hr : w'.ownsRow w.heap.size e d.sz v xs.length inner) (hL : Lay d xs inner) : ∃ (A : Option Addr) (n c : Nat), v = .slice A n c ∧ SH r (own d e A n c xs :: L) w' := by
  have hr0 := ownsRow_base_a hr (Nat.zero_le _)
  have key : ∃ A c, v = .slice A xs.length c ∧ ∀ k, v.ownBlock = some k → w.heap.size ≤ k ∧ k < w'.heap.size := by
    rcases hr.2 with ⟨rfl, hz⟩ | ⟨g, cap, cur, rfl, hg, hh, _⟩
    · exact ⟨none, 0, by rw [hz], fun k hk => by simp [Value.ownBlock] at hk⟩
    · exact ⟨_, _, rfl, fun k hk => by
        have : g = k := by simpa [Value.ownBlock] using hk
        subst this
        exact ⟨hg, (Array.getElem?_eq_some_iff.1 hh).1⟩⟩
  obtain ⟨A, c, rfl, hk⟩ := key
  refine ⟨A, xs.length, c, rfl, hb.os.trans h.os, hb.tape.trans h.tape, hb.output.trans h.output, fun k => w.heap.size ≤ k ∧ k < w'.heap.size, fun k => k < w.heap.size, fun k hk => hk.2, fun k hk => by have := hb.size; omega, fun k h1 h2 => by omega, ⟨rfl, ⟨inner, hL, hr0⟩, hk⟩, h.sep.fr fun k hk => hb.block k hk⟩
end Go.Proofs.YthokgnonmcgkcaaGreatDoor.E

namespace Go.Proofs.YthokgnonmcgkcaaGreatDoor.E
open Go Go.RowKit
def mvB (n : Nat) (F : List (Nat × Value)) : Option Nat → Op → Option (Nat × Bool) → Option (Nat × Value)
  | some t, .move x, none => bif Nat.blt t n then (ev F x).map fun v => (t, v) else none
  | some t, .assign x, none => bif Nat.blt t n then (ev F x).map fun v => (t, v) else none
  | _, _, _ => none
section
variable {P : Program} {ops : Array Oper} {Q : Exit → Act → World → Prop} {o : Oper} {rest : List Oper} {a : Act} {w : World} {n t : Nat} {D : List Deferred} {F : List (Nat × Value)} {v : Value}
theorem x_m (hA : FR n D a F) (h : mvB n F o.dst o.op o.guard = some (t, v)) (kk : ∀ a', FR n D a' ((t, v) :: F) → wpList P ops Q rest a' w) : wpList P ops Q (o :: rest) a w := by
  unfold mvB at h
  split at h
  · rename_i t' x hd ho hg
    cases hb : Nat.blt t' n with
    | false => rw [hb] at h; cases h
    | true =>
      rw [hb] at h
      cases hx : ev F x with
      | none => rw [hx] at h; cases h
      | some u => rw [hx] at h; cases h; exact x_move hA kk ho hx hd hg hb
  · rename_i t' x hd ho hg
    cases hb : Nat.blt t' n with
    | false => rw [hb] at h; cases h
    | true =>
      rw [hb] at h
      cases hx : ev F x with
      | none => rw [hx] at h; cases h
      | some u => rw [hx] at h; cases h; exact x_assign hA kk ho hx hd hg hb
  · cases h
def dsB (n : Nat) : Option Nat → Option (Nat × Bool) → Option Nat
  | some t, none => bif Nat.blt t n then some t else none
  | _, _ => none
theorem x_v (hA : FR n D a F) (r : RunV P o a w v) (h : dsB n o.dst o.guard = some t) (kk : ∀ a', FR n D a' ((t, v) :: F) → wpList P ops Q rest a' w) : wpList P ops Q (o :: rest) a w := by
  unfold dsB at h
  split at h
  · rename_i t' hd hg
    cases hb : Nat.blt t' n with
    | false => rw [hb] at h; cases h
    | true => rw [hb] at h; cases h; exact x_val hA r kk hd hg hb
  · cases h
theorem wn (h : Q .normal a w) : wpList P ops Q [] a w := wpList_nil h
theorem ws {id : Nat} {c : Code} (h : ∀ K : Act → World → Prop, (∀ a w, c.wp P Q a w → K a w) → wpList P ops (Exit.then K Q) ops.toList a w) : ((Code.region id ops false).seq c).wp P Q a w :=
  wp_seq_k fun K hK => wp_reg (h K hK)
end
end Go.Proofs.YthokgnonmcgkcaaGreatDoor.E
namespace Go.Proofs.YthokgnonmcgkcaaGreatDoor.M
open Go Go.RowKit Go.Proofs.YthokgnonmcgkcaaGreatDoor.E
set_option linter.unusedVariables false
set_option linter.unusedSimpArgs false
structure S37 where
  f0 : Int
  f1 : Int
  f2 : Int
  f3 : (List UInt8)
  f4 : Nat
structure S86 where
  f0 : (List Int)
def gl_page_table : List Int := [0, 498536548, 997073096, 651767980, 1994146192, 1802195444, 1303535960, 1342533948, 3988292384, 4027552580, 3604390888, 3412177804, 2607071920, 2262029012, 2685067896, 3183342108]
end Go.Proofs.YthokgnonmcgkcaaGreatDoor.M
namespace Go.Proofs.YthokgnonmcgkcaaGreatDoor.M
open Go Go.RowKit Go.Proofs.YthokgnonmcgkcaaGreatDoor.E
set_option linter.unusedVariables false
set_option linter.unusedSimpArgs false
def k37 : Kd S37 where
  sz := 5
  V x cs := cs = [.int .u64 x.f0, .int .i64 x.f1, .int .i64 x.f2, str x.f3, .float .f64 x.f4]
  len h := by rw [h]; rfl
  one h := by rw [h]; simp [Value.oneCell', str]
def obj86 (Z : Nat → Prop) (wz : World) (g : Nat) (x : S86) : HP := ex fun i : Option Addr × Nat × Nat => star [blk g 86 [.slice i.1 i.2.1 i.2.2], pure' (Imm Z wz (kI .u8) i.1 i.2.1 i.2.2 x.f0)]
theorem obj86_open {r w : World} {L : List HP} {Z : Nat → Prop} {wz : World} {g : Nat} {x : S86} (h : SH r (obj86 Z wz g x :: L) w) : ∃ A0_ n0_ c0_, SH r (blk g 86 [.slice A0_ n0_ c0_] :: pure' (Imm Z wz (kI .u8) A0_ n0_ c0_ x.f0) :: L) w := by
  obtain ⟨i, h⟩ := h.unex
  exact ⟨i.1, i.2.1, i.2.2, h.unstar⟩
theorem obj86_mk {r w : World} {L : List HP} {Z : Nat → Prop} {wz : World} {g : Nat} {x : S86} {A0_ : Option Addr} {n0_ : Nat} {c0_ : Nat} (h : SH r (blk g 86 [.slice A0_ n0_ c0_] :: pure' (Imm Z wz (kI .u8) A0_ n0_ c0_ x.f0) :: L) w) : SH r (obj86 Z wz g x :: L) w := SH.ex (A0_, n0_, c0_) (SH.star (Ls := [blk g 86 [.slice A0_ n0_ c0_], pure' (Imm Z wz (kI .u8) A0_ n0_ c0_ x.f0)]) h)
def obj39 (g : Nat) (x : (List Int)) : HP := ex fun i : Option Addr × Nat × Nat => star [blk g 39 [.slice i.1 i.2.1 i.2.2], own (kI .i64) 2 i.1 i.2.1 i.2.2 x]
theorem obj39_open {r w : World} {L : List HP} {g : Nat} {x : (List Int)} (h : SH r (obj39 g x :: L) w) : ∃ A0_ n0_ c0_, SH r (blk g 39 [.slice A0_ n0_ c0_] :: own (kI .i64) 2 A0_ n0_ c0_ x :: L) w := by
  obtain ⟨i, h⟩ := h.unex
  exact ⟨i.1, i.2.1, i.2.2, h.unstar⟩
theorem obj39_mk {r w : World} {L : List HP} {g : Nat} {x : (List Int)} {A0_ : Option Addr} {n0_ : Nat} {c0_ : Nat} (h : SH r (blk g 39 [.slice A0_ n0_ c0_] :: own (kI .i64) 2 A0_ n0_ c0_ x :: L) w) : SH r (obj39 g x :: L) w := SH.ex (A0_, n0_, c0_) (SH.star (Ls := [blk g 39 [.slice A0_ n0_ c0_], own (kI .i64) 2 A0_ n0_ c0_ x]) h)
def obj40 (g : Nat) (x : (List (List UInt8))) : HP := ex fun i : Option Addr × Nat × Nat => star [blk g 40 [.slice i.1 i.2.1 i.2.2], own kS 9 i.1 i.2.1 i.2.2 x]
theorem obj40_open {r w : World} {L : List HP} {g : Nat} {x : (List (List UInt8))} (h : SH r (obj40 g x :: L) w) : ∃ A0_ n0_ c0_, SH r (blk g 40 [.slice A0_ n0_ c0_] :: own kS 9 A0_ n0_ c0_ x :: L) w := by
  obtain ⟨i, h⟩ := h.unex
  exact ⟨i.1, i.2.1, i.2.2, h.unstar⟩
theorem obj40_mk {r w : World} {L : List HP} {g : Nat} {x : (List (List UInt8))} {A0_ : Option Addr} {n0_ : Nat} {c0_ : Nat} (h : SH r (blk g 40 [.slice A0_ n0_ c0_] :: own kS 9 A0_ n0_ c0_ x :: L) w) : SH r (obj40 g x :: L) w := SH.ex (A0_, n0_, c0_) (SH.star (Ls := [blk g 40 [.slice A0_ n0_ c0_], own kS 9 A0_ n0_ c0_ x]) h)
end Go.Proofs.YthokgnonmcgkcaaGreatDoor.M
namespace Go.Proofs.YthokgnonmcgkcaaGreatDoor.M
open Go Go.RowKit Go.Proofs.YthokgnonmcgkcaaGreatDoor.E
set_option linter.unusedVariables false
set_option linter.unusedSimpArgs false
def badC : List PanicEntry := [{ v := .iface 83 (.agg #[]), recovered := false }]
theorem by37 : Tryz.prog.bytesOf 37 = 48 := by kernel_rfl
theorem by5 : Tryz.prog.bytesOf 5 = 1 := by kernel_rfl
theorem ce2 : Tryz.prog.cellsOf 2 = 1 := by kernel_rfl
theorem ce3 : Tryz.prog.cellsOf 3 = 1 := by kernel_rfl
theorem ce34 : Tryz.prog.cellsOf 34 = 1 := by kernel_rfl
theorem ce35 : Tryz.prog.cellsOf 35 = 1 := by kernel_rfl
theorem ce37 : Tryz.prog.cellsOf 37 = 5 := by kernel_rfl
theorem ce5 : Tryz.prog.cellsOf 5 = 1 := by kernel_rfl
theorem ce79 : Tryz.prog.cellsOf 79 = 1 := by kernel_rfl
theorem ce9 : Tryz.prog.cellsOf 9 = 1 := by kernel_rfl
theorem en10 : EN Tryz.prog 10 := EN_of Tryz.func10 (by kernel_rfl) rfl
theorem en11 : EN Tryz.prog 11 := EN_of Tryz.func11 (by kernel_rfl) rfl
theorem en12 : EN Tryz.prog 12 := EN_of Tryz.func12 (by kernel_rfl) rfl
theorem en13 : EN Tryz.prog 13 := EN_of Tryz.func13 (by kernel_rfl) rfl
theorem en14 : EN Tryz.prog 14 := EN_of Tryz.func14 (by kernel_rfl) rfl
theorem en15 : EN Tryz.prog 15 := EN_of Tryz.func15 (by kernel_rfl) rfl
theorem en16 : EN Tryz.prog 16 := EN_of Tryz.func16 (by kernel_rfl) rfl
theorem en17 : EN Tryz.prog 17 := EN_of Tryz.func17 (by kernel_rfl) rfl
theorem en18 : EN Tryz.prog 18 := EN_of Tryz.func18 (by kernel_rfl) rfl
theorem en19 : EN Tryz.prog 19 := EN_of Tryz.func19 (by kernel_rfl) rfl
theorem en20 : EN Tryz.prog 20 := EN_of Tryz.func20 (by kernel_rfl) rfl
theorem en21 : EN Tryz.prog 21 := EN_of Tryz.func21 (by kernel_rfl) rfl
theorem en22 : EN Tryz.prog 22 := EN_of Tryz.func22 (by kernel_rfl) rfl
theorem en23 : EN Tryz.prog 23 := EN_of Tryz.func23 (by kernel_rfl) rfl
theorem en24 : EN Tryz.prog 24 := EN_of Tryz.func24 (by kernel_rfl) rfl
theorem en25 : EN Tryz.prog 25 := EN_of Tryz.func25 (by kernel_rfl) rfl
theorem en26 : EN Tryz.prog 26 := EN_of Tryz.func26 (by kernel_rfl) rfl
theorem en27 : EN Tryz.prog 27 := EN_of Tryz.func27 (by kernel_rfl) rfl
theorem en28 : EN Tryz.prog 28 := EN_of Tryz.func28 (by kernel_rfl) rfl
theorem en29 : EN Tryz.prog 29 := EN_of Tryz.func29 (by kernel_rfl) rfl
theorem en30 : EN Tryz.prog 30 := EN_of Tryz.func30 (by kernel_rfl) rfl
theorem en31 : EN Tryz.prog 31 := EN_of Tryz.func31 (by kernel_rfl) rfl
theorem en32 : EN Tryz.prog 32 := EN_of Tryz.func32 (by kernel_rfl) rfl
theorem en33 : EN Tryz.prog 33 := EN_of Tryz.func33 (by kernel_rfl) rfl
theorem en34 : EN Tryz.prog 34 := EN_of Tryz.func34 (by kernel_rfl) rfl
theorem en35 : EN Tryz.prog 35 := EN_of Tryz.func35 (by kernel_rfl) rfl
theorem en36 : EN Tryz.prog 36 := EN_of Tryz.func36 (by kernel_rfl) rfl
theorem en37 : EN Tryz.prog 37 := EN_of Tryz.func37 (by kernel_rfl) rfl
theorem en38 : EN Tryz.prog 38 := EN_of Tryz.func38 (by kernel_rfl) rfl
theorem en39 : EN Tryz.prog 39 := EN_of Tryz.func39 (by kernel_rfl) rfl
theorem en4 : EN Tryz.prog 4 := EN_of Tryz.func4 (by kernel_rfl) rfl
theorem en40 : EN Tryz.prog 40 := EN_of Tryz.func40 (by kernel_rfl) rfl
theorem en41 : EN Tryz.prog 41 := EN_of Tryz.func41 (by kernel_rfl) rfl
theorem en42 : EN Tryz.prog 42 := EN_of Tryz.func42 (by kernel_rfl) rfl
theorem en43 : EN Tryz.prog 43 := EN_of Tryz.func43 (by kernel_rfl) rfl
theorem en44 : EN Tryz.prog 44 := EN_of Tryz.func44 (by kernel_rfl) rfl
theorem en45 : EN Tryz.prog 45 := EN_of Tryz.func45 (by kernel_rfl) rfl
theorem en46 : EN Tryz.prog 46 := EN_of Tryz.func46 (by kernel_rfl) rfl
theorem en47 : EN Tryz.prog 47 := EN_of Tryz.func47 (by kernel_rfl) rfl
theorem en48 : EN Tryz.prog 48 := EN_of Tryz.func48 (by kernel_rfl) rfl
theorem en49 : EN Tryz.prog 49 := EN_of Tryz.func49 (by kernel_rfl) rfl
theorem en5 : EN Tryz.prog 5 := EN_of Tryz.func5 (by kernel_rfl) rfl
theorem en50 : EN Tryz.prog 50 := EN_of Tryz.func50 (by kernel_rfl) rfl
theorem en51 : EN Tryz.prog 51 := EN_of Tryz.func51 (by kernel_rfl) rfl
theorem en52 : EN Tryz.prog 52 := EN_of Tryz.func52 (by kernel_rfl) rfl
theorem en53 : EN Tryz.prog 53 := EN_of Tryz.func53 (by kernel_rfl) rfl
theorem en54 : EN Tryz.prog 54 := EN_of Tryz.func54 (by kernel_rfl) rfl
theorem en55 : EN Tryz.prog 55 := EN_of Tryz.func55 (by kernel_rfl) rfl
theorem en56 : EN Tryz.prog 56 := EN_of Tryz.func56 (by kernel_rfl) rfl
theorem en57 : EN Tryz.prog 57 := EN_of Tryz.func57 (by kernel_rfl) rfl
theorem en58 : EN Tryz.prog 58 := EN_of Tryz.func58 (by kernel_rfl) rfl
theorem en59 : EN Tryz.prog 59 := EN_of Tryz.func59 (by kernel_rfl) rfl
theorem en6 : EN Tryz.prog 6 := EN_of Tryz.func6 (by kernel_rfl) rfl
theorem en60 : EN Tryz.prog 60 := EN_of Tryz.func60 (by kernel_rfl) rfl
theorem en61 : EN Tryz.prog 61 := EN_of Tryz.func61 (by kernel_rfl) rfl
theorem en62 : EN Tryz.prog 62 := EN_of Tryz.func62 (by kernel_rfl) rfl
theorem en63 : EN Tryz.prog 63 := EN_of Tryz.func63 (by kernel_rfl) rfl
theorem en64 : EN Tryz.prog 64 := EN_of Tryz.func64 (by kernel_rfl) rfl
theorem en68 : EN Tryz.prog 68 := EN_of Tryz.func68 (by kernel_rfl) rfl
theorem en69 : EN Tryz.prog 69 := EN_of Tryz.func69 (by kernel_rfl) rfl
theorem en7 : EN Tryz.prog 7 := EN_of Tryz.func7 (by kernel_rfl) rfl
theorem en71 : EN Tryz.prog 71 := EN_of Tryz.func71 (by kernel_rfl) rfl
theorem en72 : EN Tryz.prog 72 := EN_of Tryz.func72 (by kernel_rfl) rfl
theorem en73 : EN Tryz.prog 73 := EN_of Tryz.func73 (by kernel_rfl) rfl
theorem en74 : EN Tryz.prog 74 := EN_of Tryz.func74 (by kernel_rfl) rfl
theorem en75 : EN Tryz.prog 75 := EN_of Tryz.func75 (by kernel_rfl) rfl
theorem en76 : EN Tryz.prog 76 := EN_of Tryz.func76 (by kernel_rfl) rfl
theorem en78 : EN Tryz.prog 78 := EN_of Tryz.func78 (by kernel_rfl) rfl
theorem en79 : EN Tryz.prog 79 := EN_of Tryz.func79 (by kernel_rfl) rfl
theorem en8 : EN Tryz.prog 8 := EN_of Tryz.func8 (by kernel_rfl) rfl
theorem en80 : EN Tryz.prog 80 := EN_of Tryz.func80 (by kernel_rfl) rfl
theorem en81 : EN Tryz.prog 81 := EN_of Tryz.func81 (by kernel_rfl) rfl
theorem en82 : EN Tryz.prog 82 := EN_of Tryz.func82 (by kernel_rfl) rfl
theorem en83 : EN Tryz.prog 83 := EN_of Tryz.func83 (by kernel_rfl) rfl
theorem en87 : EN Tryz.prog 87 := EN_of Tryz.func87 (by kernel_rfl) rfl
theorem en88 : EN Tryz.prog 88 := EN_of Tryz.func88 (by kernel_rfl) rfl
theorem en89 : EN Tryz.prog 89 := EN_of Tryz.func89 (by kernel_rfl) rfl
theorem en9 : EN Tryz.prog 9 := EN_of Tryz.func9 (by kernel_rfl) rfl
theorem en99 : EN Tryz.prog 99 := EN_of Tryz.func99 (by kernel_rfl) rfl
theorem ex70 (b : Nat) : EXT Tryz.prog 70 #[.float .f64 b] (.int .u64 b) := fun w => by kernel_rfl
theorem ex77 (n : Int) : EXT Tryz.prog 77 #[.int .u64 n] (.float .f64 n.toNat) := fun w => by kernel_rfl
theorem fa37_0 : FA Tryz.prog 37 0 0 := fun ad w => by kernel_rfl
theorem fa37_1 : FA Tryz.prog 37 1 1 := fun ad w => by kernel_rfl
theorem fa37_2 : FA Tryz.prog 37 2 2 := fun ad w => by kernel_rfl
theorem fa37_3 : FA Tryz.prog 37 3 3 := fun ad w => by kernel_rfl
theorem fa37_4 : FA Tryz.prog 37 4 4 := fun ad w => by kernel_rfl
theorem fa86_0 : FA Tryz.prog 86 0 0 := fun ad w => by kernel_rfl
theorem inf2 : (Tryz.prog.info? 2).map (fun i => (i.zero, i.size, i.bytes)) = some (some (.int .i64 0), 1, 8) := by kernel_rfl
theorem inf35 : (Tryz.prog.info? 35).map (fun i => (i.zero, i.size, i.bytes)) = some (some (.float .f64 0), 1, 8) := by kernel_rfl
theorem inf37 : (Tryz.prog.info? 37).map (fun i => (i.zero, i.size, i.bytes)) = some (some (.agg #[(.int .u64 0), (.int .i64 0), (.int .i64 0), (str []), (.float .f64 0)]), 5, 48) := by kernel_rfl
theorem inf4 : (Tryz.prog.info? 4).map (fun i => (i.zero, i.size, i.bytes)) = some (some (.bool false), 1, 1) := by kernel_rfl
theorem inf5 : (Tryz.prog.info? 5).map (fun i => (i.zero, i.size, i.bytes)) = some (some (.int .u8 0), 1, 1) := by kernel_rfl
theorem inf9 : (Tryz.prog.info? 9).map (fun i => (i.zero, i.size, i.bytes)) = some (some (str []), 1, 16) := by kernel_rfl
theorem sz2 : (Tryz.prog.info? 2).map (·.size) = some 1 := by kernel_rfl
theorem sz22 : (Tryz.prog.info? 22).map (·.size) = some 1 := by kernel_rfl
theorem sz27 : (Tryz.prog.info? 27).map (·.size) = some 1 := by kernel_rfl
theorem sz35 : (Tryz.prog.info? 35).map (·.size) = some 1 := by kernel_rfl
theorem sz37 : (Tryz.prog.info? 37).map (·.size) = some 5 := by kernel_rfl
theorem sz39 : (Tryz.prog.info? 39).map (·.size) = some 1 := by kernel_rfl
theorem sz4 : (Tryz.prog.info? 4).map (·.size) = some 1 := by kernel_rfl
theorem sz40 : (Tryz.prog.info? 40).map (·.size) = some 1 := by kernel_rfl
theorem sz5 : (Tryz.prog.info? 5).map (·.size) = some 1 := by kernel_rfl
theorem sz79 : (Tryz.prog.info? 79).map (·.size) = some 1 := by kernel_rfl
theorem sz83 : (Tryz.prog.info? 83).map (·.size) = some 0 := by kernel_rfl
theorem sz9 : (Tryz.prog.info? 9).map (·.size) = some 1 := by kernel_rfl
theorem zr37 : (Tryz.prog.info? 37).bind (·.zero) = some (.agg #[(.int .u64 0), (.int .i64 0), (.int .i64 0), (str []), (.float .f64 0)]) := by kernel_rfl
theorem zr39 : (Tryz.prog.info? 39).bind (·.zero) = some (.slice none 0 0) := by kernel_rfl
theorem zr4 : (Tryz.prog.info? 4).bind (·.zero) = some (.bool false) := by kernel_rfl
theorem zr40 : (Tryz.prog.info? 40).bind (·.zero) = some (.slice none 0 0) := by kernel_rfl
theorem zr50 : (Tryz.prog.info? 50).bind (·.zero) = some (.agg #[(.slice none 0 0), (.slice none 0 0), (.slice none 0 0), (.slice none 0 0), (.slice none 0 0)]) := by kernel_rfl
theorem zr83 : (Tryz.prog.info? 83).bind (·.zero) = some (.agg #[]) := by kernel_rfl
end Go.Proofs.YthokgnonmcgkcaaGreatDoor.M
namespace Go.Proofs.YthokgnonmcgkcaaGreatDoor.M
open Go Go.RowKit Go.Proofs.YthokgnonmcgkcaaGreatDoor.E
set_option linter.unusedVariables false
set_option linter.unusedSimpArgs false
def g37 (x : S37) : Prop := (gI .u64) x.f0 ∧ (gI .i64) x.f1 ∧ (gI .i64) x.f2 ∧ gS x.f3 ∧ gF x.f4
set_option maxRecDepth 100000 in
theorem op37 {W : World} : Opens Tryz.prog W 37 k37 g37 := by
  intro H enc held fuel cs x h hw
  obtain ⟨ys, n, _, rfl, hl, hyl, hf⟩ := DataW.trod_struct Tryz.underlying37 h
  rw [ce37] at hl
  match cs, hl with
  | [c0, c1, c2, c3, c4], _ =>
    obtain ⟨a0, h0, q0⟩ := fld Tryz.underlying37 hf hyl hw 0 rfl (o := 0) (c := 1) (t := 34) rfl rfl ce34 (opI Tryz.underlying34)
    cases (show [c0] = [.int .u64 a0] from h0)
    obtain ⟨a1, h1, q1⟩ := fld Tryz.underlying37 hf hyl hw 1 rfl (o := 1) (c := 1) (t := 3) rfl rfl ce3 (opI Tryz.underlying3)
    cases (show [c1] = [.int .i64 a1] from h1)
    obtain ⟨a2, h2, q2⟩ := fld Tryz.underlying37 hf hyl hw 2 rfl (o := 2) (c := 1) (t := 2) rfl rfl ce2 (opI Tryz.underlying2)
    cases (show [c2] = [.int .i64 a2] from h2)
    obtain ⟨a3, h3, q3⟩ := fld Tryz.underlying37 hf hyl hw 3 rfl (o := 3) (c := 1) (t := 9) rfl rfl ce9 (opS Tryz.underlying9)
    cases (show [c3] = [str a3] from h3)
    obtain ⟨a4, h4, q4⟩ := fld Tryz.underlying37 hf hyl hw 4 rfl (o := 4) (c := 1) (t := 35) rfl rfl ce35 (opF Tryz.underlying35)
    cases (show [c4] = [.float .f64 a4] from h4)
    exact ⟨⟨a0, a1, a2, a3, a4⟩, rfl, q0, q1, q2, q3, q4⟩
end Go.Proofs.YthokgnonmcgkcaaGreatDoor.M
namespace Go.Proofs.YthokgnonmcgkcaaGreatDoor.M
open Go Go.RowKit Go.Proofs.YthokgnonmcgkcaaGreatDoor.E
set_option linter.unusedVariables false
set_option linter.unusedSimpArgs false
noncomputable def event_Less (a0 : S37) (a1 : S37) : Option (Bool) :=
  if (!(a0.f3 == a1.f3)) = true then (some (Op.bytesLess a0.f3 a1.f3)) else (if (a0.f2 != a1.f2) = true then (some (decide (a0.f2 < a1.f2))) else (some (decide (a0.f0 < a1.f0))))
noncomputable def event_Sort_1 (a0 : S37) (a1 : S37) : Option (Int) :=
  (event_Less a0 a1).bind fun y107 => (if y107 = true then (some (-1)) else ((event_Less a1 a0).bind fun y112 => (if y112 = true then (some 1) else (some 0))))
noncomputable def slices_Clone_api_Event_api_Event (a0 : (List S37)) : Option ((List S37)) :=
  nilsplit (a0).isEmpty (some []) (chk (([] : List S37).length + a0.length ≤ 140737488355328 / 48) (some a0))
noncomputable def slices_swapRangeCmpFunc_api_Event_b1 (l150 : (List S37)) : Option ((List S37)) :=
  some l150
noncomputable def slices_swapRangeCmpFunc_api_Event_x1_0 (l183 : (List S37)) : Option ((List S37)) :=
  slices_swapRangeCmpFunc_api_Event_b1 l183
noncomputable def slices_swapRangeCmpFunc_api_Event_l1 (a1 : Int) (a2 : Int) (a3 : Int) (l166 : (List S37)) (x167 : Int) : Option (((List S37) × Int) ⊕ (((List S37)))) :=
  if (decide (x167 < a3)) = true then ((at_ l166 (IntKind.i64.wrap (a2 + x167))).bind fun x190 => ((at_ l166 (IntKind.i64.wrap (a1 + x167))).bind fun x193 => ((at_ (l166.set (IntKind.i64.wrap (a1 + x167)).toNat x190) (IntKind.i64.wrap (a2 + x167))).bind fun x196 => (some (.inl ((l166.set (IntKind.i64.wrap (a1 + x167)).toNat x190).set (IntKind.i64.wrap (a2 + x167)).toNat x193, IntKind.i64.wrap (x167 + 1))))))) else (some (.inr (l166)))
noncomputable def slices_swapRangeCmpFunc_api_Event (a0 : (List S37)) (a1 : Int) (a2 : Int) (a3 : Int) : Option ((List S37)) :=
  (loop (fun s => slices_swapRangeCmpFunc_api_Event_l1 a1 a2 a3 s.1 s.2) (a0, 0)).bind fun t => slices_swapRangeCmpFunc_api_Event_x1_0 t
noncomputable def slices_rotateCmpFunc_api_Event_b1 (a2 : Int) (l361 : (List S37)) (x362 : Int) : Option ((List S37)) :=
  (slices_swapRangeCmpFunc_api_Event l361 (IntKind.i64.wrap (a2 - x362)) a2 x362).bind fun y363 => (some y363)
noncomputable def slices_rotateCmpFunc_api_Event_x1_0 (a2 : Int) (l422 : (List S37)) (x423 : Int) : Option ((List S37)) :=
  slices_rotateCmpFunc_api_Event_b1 a2 l422 x423
noncomputable def slices_rotateCmpFunc_api_Event_b2 (l437 : (List S37)) (x438 : Int) (x439 : Int) : Option (((List S37) × Int × Int) ⊕ (((List S37) × Int))) :=
  some (.inl (l437, x438, x439))
noncomputable def slices_rotateCmpFunc_api_Event_l1 (a2 : Int) (l392 : (List S37)) (x393 : Int) (x394 : Int) : Option (((List S37) × Int × Int) ⊕ (((List S37) × Int))) :=
  if (x393 != x394) = true then (if (decide (x394 < x393)) = true then ((slices_swapRangeCmpFunc_api_Event l392 (IntKind.i64.wrap (a2 - x393)) a2 x394).bind fun y443 => (slices_rotateCmpFunc_api_Event_b2 y443 (IntKind.i64.wrap (x393 - x394)) x394)) else ((slices_swapRangeCmpFunc_api_Event l392 (IntKind.i64.wrap (a2 - x393)) (IntKind.i64.wrap ((IntKind.i64.wrap (a2 + x394)) - x393)) x393).bind fun y446 => (slices_rotateCmpFunc_api_Event_b2 y446 x393 (IntKind.i64.wrap (x394 - x393))))) else (some (.inr (l392, x393)))
noncomputable def slices_rotateCmpFunc_api_Event (a0 : (List S37)) (a1 : Int) (a2 : Int) (a3 : Int) : Option ((List S37)) :=
  (loop (fun s => slices_rotateCmpFunc_api_Event_l1 a2 s.1 s.2.1 s.2.2) (a0, IntKind.i64.wrap (a2 - a1), IntKind.i64.wrap (a3 - a2))).bind fun t => slices_rotateCmpFunc_api_Event_x1_0 a2 t.1 t.2
noncomputable def slices_symMergeCmpFunc_api_Event_b2 (l447 : (List S37)) : Option ((List S37)) :=
  some l447
noncomputable def slices_symMergeCmpFunc_api_Event_x1_2 (l480 : (List S37)) : Option ((List S37)) :=
  slices_symMergeCmpFunc_api_Event_b2 l480
noncomputable def slices_symMergeCmpFunc_api_Event_l1 (x396 : Int) (l463 : (List S37)) (x464 : Int) : Option (((List S37) × Int) ⊕ (((List S37)))) :=
  if (decide (x464 < IntKind.i64.wrap (x396 - 1))) = true then ((at_ l463 (IntKind.i64.wrap (x464 + 1))).bind fun x487 => ((at_ l463 x464).bind fun x490 => ((at_ (l463.set x464.toNat x487) (IntKind.i64.wrap (x464 + 1))).bind fun x493 => (some (.inl ((l463.set x464.toNat x487).set (IntKind.i64.wrap (x464 + 1)).toNat x490, IntKind.i64.wrap (x464 + 1))))))) else (some (.inr (l463)))
noncomputable def slices_symMergeCmpFunc_api_Event_b1 (a0 : (List S37)) (a1 : Int) (x396 : Int) : Option ((List S37)) :=
  (loop (fun s => slices_symMergeCmpFunc_api_Event_l1 x396 s.1 s.2) (a0, a1)).bind fun t => slices_symMergeCmpFunc_api_Event_x1_2 t
noncomputable def slices_symMergeCmpFunc_api_Event_x2_0 (a0 : (List S37)) (a1 : Int) (x559 : Int) : Option ((List S37)) :=
  slices_symMergeCmpFunc_api_Event_b1 a0 a1 x559
noncomputable def slices_symMergeCmpFunc_api_Event_b3 (x576 : Int) (x577 : Int) : Option ((Int × Int) ⊕ ((Int))) :=
  some (.inl (x576, x577))
noncomputable def slices_symMergeCmpFunc_api_Event_l2 (a0 : (List S37)) (a1 : Int) (x526 : Int) (x527 : Int) : Option ((Int × Int) ⊕ ((Int))) :=
  if (decide (x526 < x527)) = true then ((at_ a0 (IntKind.i64.wrap (ishr .u64 (IntKind.u64.wrap (IntKind.i64.wrap (x526 + x527))) 1))).bind fun x580 => ((at_ a0 a1).bind fun x583 => ((event_Sort_1 x580 x583).bind fun y586 => (if (decide (y586 < 0)) = true then (slices_symMergeCmpFunc_api_Event_b3 (IntKind.i64.wrap ((IntKind.i64.wrap (ishr .u64 (IntKind.u64.wrap (IntKind.i64.wrap (x526 + x527))) 1)) + 1)) x527) else (slices_symMergeCmpFunc_api_Event_b3 x526 (IntKind.i64.wrap (ishr .u64 (IntKind.u64.wrap (IntKind.i64.wrap (x526 + x527))) 1))))))) else (some (.inr (x526)))
noncomputable def slices_symMergeCmpFunc_api_Event_b5 (l935 : (List S37)) : Option ((List S37)) :=
  some l935
noncomputable def slices_symMergeCmpFunc_api_Event_x3_6 (l968 : (List S37)) : Option ((List S37)) :=
  slices_symMergeCmpFunc_api_Event_b5 l968
noncomputable def slices_symMergeCmpFunc_api_Event_l3 (x884 : Int) (l951 : (List S37)) (x952 : Int) : Option (((List S37) × Int) ⊕ (((List S37)))) :=
  if (decide (x884 < x952)) = true then ((at_ l951 (IntKind.i64.wrap (x952 - 1))).bind fun x975 => ((at_ l951 x952).bind fun x978 => ((at_ (l951.set x952.toNat x975) (IntKind.i64.wrap (x952 - 1))).bind fun x981 => (some (.inl ((l951.set x952.toNat x975).set (IntKind.i64.wrap (x952 - 1)).toNat x978, IntKind.i64.wrap (x952 - 1))))))) else (some (.inr (l951)))
noncomputable def slices_symMergeCmpFunc_api_Event_b4 (a0 : (List S37)) (a2 : Int) (x884 : Int) : Option ((List S37)) :=
  (loop (fun s => slices_symMergeCmpFunc_api_Event_l3 x884 s.1 s.2) (a0, a2)).bind fun t => slices_symMergeCmpFunc_api_Event_x3_6 t
noncomputable def slices_symMergeCmpFunc_api_Event_x4_4 (a0 : (List S37)) (a2 : Int) (x1047 : Int) : Option ((List S37)) :=
  slices_symMergeCmpFunc_api_Event_b4 a0 a2 x1047
noncomputable def slices_symMergeCmpFunc_api_Event_b6 (x1064 : Int) (x1065 : Int) : Option ((Int × Int) ⊕ ((Int))) :=
  some (.inl (x1064, x1065))
noncomputable def slices_symMergeCmpFunc_api_Event_l4 (a0 : (List S37)) (a2 : Int) (x1014 : Int) (x1015 : Int) : Option ((Int × Int) ⊕ ((Int))) :=
  if (decide (x1014 < x1015)) = true then ((at_ a0 a2).bind fun x1068 => ((at_ a0 (IntKind.i64.wrap (ishr .u64 (IntKind.u64.wrap (IntKind.i64.wrap (x1014 + x1015))) 1))).bind fun x1071 => ((event_Sort_1 x1068 x1071).bind fun y1074 => (if (!(decide (y1074 < 0))) = true then (slices_symMergeCmpFunc_api_Event_b6 (IntKind.i64.wrap ((IntKind.i64.wrap (ishr .u64 (IntKind.u64.wrap (IntKind.i64.wrap (x1014 + x1015))) 1)) + 1)) x1015) else (slices_symMergeCmpFunc_api_Event_b6 x1014 (IntKind.i64.wrap (ishr .u64 (IntKind.u64.wrap (IntKind.i64.wrap (x1014 + x1015))) 1))))))) else (some (.inr (x1014)))
noncomputable def slices_symMergeCmpFunc_api_Event_j4 (rec_ : ((List S37) → Int → Int → Int → Option ((List S37)))) (a1 : Int) (a2 : Int) (a3 : Int) (x1378 : Int) (l1399 : (List S37)) (b1402 : Bool) : Option ((List S37)) :=
  if b1402 = true then ((rec_ l1399 (IntKind.i64.wrap (ishr .u64 (IntKind.u64.wrap (IntKind.i64.wrap (a1 + a3))) 1)) (IntKind.i64.wrap ((IntKind.i64.wrap ((IntKind.i64.wrap (ishr .u64 (IntKind.u64.wrap (IntKind.i64.wrap (a1 + a3))) 1)) + a2)) - x1378)) a3).bind fun y1404 => (some y1404)) else (some l1399)
noncomputable def slices_symMergeCmpFunc_api_Event_j3 (rec_ : ((List S37) → Int → Int → Int → Option ((List S37)))) (a1 : Int) (a2 : Int) (a3 : Int) (x1378 : Int) (l1399 : (List S37)) : Option ((List S37)) :=
  if (decide (IntKind.i64.wrap (ishr .u64 (IntKind.u64.wrap (IntKind.i64.wrap (a1 + a3))) 1) < IntKind.i64.wrap ((IntKind.i64.wrap ((IntKind.i64.wrap (ishr .u64 (IntKind.u64.wrap (IntKind.i64.wrap (a1 + a3))) 1)) + a2)) - x1378))) = true then (slices_symMergeCmpFunc_api_Event_j4 rec_ a1 a2 a3 x1378 l1399 (decide (IntKind.i64.wrap ((IntKind.i64.wrap ((IntKind.i64.wrap (ishr .u64 (IntKind.u64.wrap (IntKind.i64.wrap (a1 + a3))) 1)) + a2)) - x1378) < a3))) else (slices_symMergeCmpFunc_api_Event_j4 rec_ a1 a2 a3 x1378 l1399 false)
noncomputable def slices_symMergeCmpFunc_api_Event_j5 (rec_ : ((List S37) → Int → Int → Int → Option ((List S37)))) (a1 : Int) (a2 : Int) (a3 : Int) (x1378 : Int) (l1389 : (List S37)) (b1409 : Bool) : Option ((List S37)) :=
  if b1409 = true then ((rec_ l1389 a1 x1378 (IntKind.i64.wrap (ishr .u64 (IntKind.u64.wrap (IntKind.i64.wrap (a1 + a3))) 1))).bind fun y1411 => (slices_symMergeCmpFunc_api_Event_j3 rec_ a1 a2 a3 x1378 y1411)) else (slices_symMergeCmpFunc_api_Event_j3 rec_ a1 a2 a3 x1378 l1389)
noncomputable def slices_symMergeCmpFunc_api_Event_j2 (rec_ : ((List S37) → Int → Int → Int → Option ((List S37)))) (a1 : Int) (a2 : Int) (a3 : Int) (x1378 : Int) (l1389 : (List S37)) : Option ((List S37)) :=
  if (decide (a1 < x1378)) = true then (slices_symMergeCmpFunc_api_Event_j5 rec_ a1 a2 a3 x1378 l1389 (decide (x1378 < IntKind.i64.wrap (ishr .u64 (IntKind.u64.wrap (IntKind.i64.wrap (a1 + a3))) 1)))) else (slices_symMergeCmpFunc_api_Event_j5 rec_ a1 a2 a3 x1378 l1389 false)
noncomputable def slices_symMergeCmpFunc_api_Event_j6 (rec_ : ((List S37) → Int → Int → Int → Option ((List S37)))) (a0 : (List S37)) (a1 : Int) (a2 : Int) (a3 : Int) (x1378 : Int) (b1416 : Bool) : Option ((List S37)) :=
  if b1416 = true then ((slices_rotateCmpFunc_api_Event a0 x1378 a2 (IntKind.i64.wrap ((IntKind.i64.wrap ((IntKind.i64.wrap (ishr .u64 (IntKind.u64.wrap (IntKind.i64.wrap (a1 + a3))) 1)) + a2)) - x1378))).bind fun y1418 => (slices_symMergeCmpFunc_api_Event_j2 rec_ a1 a2 a3 x1378 y1418)) else (slices_symMergeCmpFunc_api_Event_j2 rec_ a1 a2 a3 x1378 a0)
noncomputable def slices_symMergeCmpFunc_api_Event_b7 (rec_ : ((List S37) → Int → Int → Int → Option ((List S37)))) (a0 : (List S37)) (a1 : Int) (a2 : Int) (a3 : Int) (x1378 : Int) : Option ((List S37)) :=
  if (decide (x1378 < a2)) = true then (slices_symMergeCmpFunc_api_Event_j6 rec_ a0 a1 a2 a3 x1378 (decide (a2 < IntKind.i64.wrap ((IntKind.i64.wrap ((IntKind.i64.wrap (ishr .u64 (IntKind.u64.wrap (IntKind.i64.wrap (a1 + a3))) 1)) + a2)) - x1378)))) else (slices_symMergeCmpFunc_api_Event_j6 rec_ a0 a1 a2 a3 x1378 false)
noncomputable def slices_symMergeCmpFunc_api_Event_x5_8 (rec_ : ((List S37) → Int → Int → Int → Option ((List S37)))) (a0 : (List S37)) (a1 : Int) (a2 : Int) (a3 : Int) (x1485 : Int) : Option ((List S37)) :=
  slices_symMergeCmpFunc_api_Event_b7 rec_ a0 a1 a2 a3 x1485
noncomputable def slices_symMergeCmpFunc_api_Event_b8 (x1502 : Int) (x1503 : Int) : Option ((Int × Int) ⊕ ((Int))) :=
  some (.inl (x1502, x1503))
noncomputable def slices_symMergeCmpFunc_api_Event_l5 (a0 : (List S37)) (a1 : Int) (a2 : Int) (a3 : Int) (x1452 : Int) (x1453 : Int) : Option ((Int × Int) ⊕ ((Int))) :=
  if (decide (x1452 < x1453)) = true then ((at_ a0 (IntKind.i64.wrap ((IntKind.i64.wrap ((IntKind.i64.wrap ((IntKind.i64.wrap (ishr .u64 (IntKind.u64.wrap (IntKind.i64.wrap (a1 + a3))) 1)) + a2)) - 1)) - (IntKind.i64.wrap (ishr .u64 (IntKind.u64.wrap (IntKind.i64.wrap (x1452 + x1453))) 1))))).bind fun x1506 => ((at_ a0 (IntKind.i64.wrap (ishr .u64 (IntKind.u64.wrap (IntKind.i64.wrap (x1452 + x1453))) 1))).bind fun x1509 => ((event_Sort_1 x1506 x1509).bind fun y1512 => (if (!(decide (y1512 < 0))) = true then (slices_symMergeCmpFunc_api_Event_b8 (IntKind.i64.wrap ((IntKind.i64.wrap (ishr .u64 (IntKind.u64.wrap (IntKind.i64.wrap (x1452 + x1453))) 1)) + 1)) x1453) else (slices_symMergeCmpFunc_api_Event_b8 x1452 (IntKind.i64.wrap (ishr .u64 (IntKind.u64.wrap (IntKind.i64.wrap (x1452 + x1453))) 1))))))) else (some (.inr (x1452)))
noncomputable def slices_symMergeCmpFunc_api_Event_j1 (rec_ : ((List S37) → Int → Int → Int → Option ((List S37)))) (a0 : (List S37)) (a1 : Int) (a2 : Int) (a3 : Int) (x1085 : Int) (x1086 : Int) : Option ((List S37)) :=
  (loop (fun s => slices_symMergeCmpFunc_api_Event_l5 a0 a1 a2 a3 s.1 s.2) (x1085, x1086)).bind fun t => slices_symMergeCmpFunc_api_Event_x5_8 rec_ a0 a1 a2 a3 t
noncomputable def slices_symMergeCmpFunc_api_Event_s (rec_ : (List S37) → Int → Int → Int → Option ((List S37))) (a0 : (List S37)) (a1 : Int) (a2 : Int) (a3 : Int) : Option ((List S37)) :=
  if ((IntKind.i64.wrap (a2 - a1)) == 1) = true then ((loop (fun s => slices_symMergeCmpFunc_api_Event_l2 a0 a1 s.1 s.2) (a2, a3)).bind fun t => slices_symMergeCmpFunc_api_Event_x2_0 a0 a1 t) else (if ((IntKind.i64.wrap (a3 - a2)) == 1) = true then ((loop (fun s => slices_symMergeCmpFunc_api_Event_l4 a0 a2 s.1 s.2) (a1, a2)).bind fun t => slices_symMergeCmpFunc_api_Event_x4_4 a0 a2 t) else (if (decide (IntKind.i64.wrap (ishr .u64 (IntKind.u64.wrap (IntKind.i64.wrap (a1 + a3))) 1) < a2)) = true then (slices_symMergeCmpFunc_api_Event_j1 rec_ a0 a1 a2 a3 (IntKind.i64.wrap ((IntKind.i64.wrap ((IntKind.i64.wrap (ishr .u64 (IntKind.u64.wrap (IntKind.i64.wrap (a1 + a3))) 1)) + a2)) - a3)) (IntKind.i64.wrap (ishr .u64 (IntKind.u64.wrap (IntKind.i64.wrap (a1 + a3))) 1))) else (slices_symMergeCmpFunc_api_Event_j1 rec_ a0 a1 a2 a3 a1 a2)))
noncomputable def slices_symMergeCmpFunc_api_Event_k : Nat → (List S37) → Int → Int → Int → Option ((List S37))
  | 0 => fun _ _ _ _ => none
  | k + 1 => slices_symMergeCmpFunc_api_Event_s (slices_symMergeCmpFunc_api_Event_k k)
noncomputable def slices_symMergeCmpFunc_api_Event : (List S37) → Int → Int → Int → Option ((List S37)) := slices_symMergeCmpFunc_api_Event_k 64
noncomputable def slices_insertionSortCmpFunc_api_Event_b1 (l2745 : (List S37)) : Option ((List S37)) :=
  some l2745
noncomputable def slices_insertionSortCmpFunc_api_Event_x1_0 (l4508 : (List S37)) : Option ((List S37)) :=
  slices_insertionSortCmpFunc_api_Event_b1 l4508
noncomputable def slices_insertionSortCmpFunc_api_Event_b2 (x3627 : Int) (l5279 : (List S37)) : Option (((List S37) × Int) ⊕ (((List S37)))) :=
  some (.inl (l5279, IntKind.i64.wrap (x3627 + 1)))
noncomputable def slices_insertionSortCmpFunc_api_Event_x2_2 (x3627 : Int) (l5352 : (List S37)) : Option (((List S37) × Int) ⊕ (((List S37)))) :=
  slices_insertionSortCmpFunc_api_Event_b2 x3627 l5352
noncomputable def slices_insertionSortCmpFunc_api_Event_j1 (l5315 : (List S37)) (x5316 : Int) (b5365 : Bool) : Option (((List S37) × Int) ⊕ (((List S37)))) :=
  if b5365 = true then ((at_ l5315 (IntKind.i64.wrap (x5316 - 1))).bind fun x5369 => ((at_ l5315 x5316).bind fun x5372 => ((at_ (l5315.set x5316.toNat x5369) (IntKind.i64.wrap (x5316 - 1))).bind fun x5375 => (some (.inl ((l5315.set x5316.toNat x5369).set (IntKind.i64.wrap (x5316 - 1)).toNat x5372, IntKind.i64.wrap (x5316 - 1))))))) else (some (.inr (l5315)))
noncomputable def slices_insertionSortCmpFunc_api_Event_l2 (a1 : Int) (l5315 : (List S37)) (x5316 : Int) : Option (((List S37) × Int) ⊕ (((List S37)))) :=
  if (decide (a1 < x5316)) = true then ((at_ l5315 x5316).bind fun x5378 => ((at_ l5315 (IntKind.i64.wrap (x5316 - 1))).bind fun x5381 => ((event_Sort_1 x5378 x5381).bind fun y5384 => (slices_insertionSortCmpFunc_api_Event_j1 l5315 x5316 (decide (y5384 < 0)))))) else (slices_insertionSortCmpFunc_api_Event_j1 l5315 x5316 false)
noncomputable def slices_insertionSortCmpFunc_api_Event_l1 (a1 : Int) (a2 : Int) (l3626 : (List S37)) (x3627 : Int) : Option (((List S37) × Int) ⊕ (((List S37)))) :=
  if (decide (x3627 < a2)) = true then ((loop (fun s => slices_insertionSortCmpFunc_api_Event_l2 a1 s.1 s.2) (l3626, x3627)).bind fun t => slices_insertionSortCmpFunc_api_Event_x2_2 x3627 t) else (some (.inr (l3626)))
noncomputable def slices_insertionSortCmpFunc_api_Event (a0 : (List S37)) (a1 : Int) (a2 : Int) : Option ((List S37)) :=
  (loop (fun s => slices_insertionSortCmpFunc_api_Event_l1 a1 a2 s.1 s.2) (a0, IntKind.i64.wrap (a1 + 1))).bind fun t => slices_insertionSortCmpFunc_api_Event_x1_0 t
noncomputable def slices_stableCmpFunc_api_Event_b2 (l744 : (List S37)) : Option ((List S37)) :=
  some l744
noncomputable def slices_stableCmpFunc_api_Event_x1_2 (l1093 : (List S37)) : Option ((List S37)) :=
  slices_stableCmpFunc_api_Event_b2 l1093
noncomputable def slices_stableCmpFunc_api_Event_j1 (x919 : Int) (l1222 : (List S37)) : Option (((List S37) × Int) ⊕ (((List S37)))) :=
  some (.inl (l1222, IntKind.i64.wrap (x919 * 2)))
noncomputable def slices_stableCmpFunc_api_Event_b3 (a1 : Int) (x919 : Int) (l1214 : (List S37)) (x1215 : Int) : Option (((List S37) × Int) ⊕ (((List S37)))) :=
  if (decide (IntKind.i64.wrap (x1215 + x919) < a1)) = true then ((slices_symMergeCmpFunc_api_Event l1214 x1215 (IntKind.i64.wrap (x1215 + x919)) a1).bind fun y1226 => (slices_stableCmpFunc_api_Event_j1 x919 y1226)) else (slices_stableCmpFunc_api_Event_j1 x919 l1214)
noncomputable def slices_stableCmpFunc_api_Event_x2_4 (a1 : Int) (x919 : Int) (l1253 : (List S37)) (x1254 : Int) : Option (((List S37) × Int) ⊕ (((List S37)))) :=
  slices_stableCmpFunc_api_Event_b3 a1 x919 l1253 x1254
noncomputable def slices_stableCmpFunc_api_Event_l2 (a1 : Int) (x919 : Int) (l1239 : (List S37)) (x1240 : Int) (x1241 : Int) : Option (((List S37) × Int × Int) ⊕ (((List S37) × Int))) :=
  if (decide (x1241 ≤ a1)) = true then ((slices_symMergeCmpFunc_api_Event l1239 x1240 (IntKind.i64.wrap (x1240 + x919)) x1241).bind fun y1261 => (some (.inl (y1261, x1241, IntKind.i64.wrap (x1241 + (IntKind.i64.wrap (2 * x919))))))) else (some (.inr (l1239, x1240)))
noncomputable def slices_stableCmpFunc_api_Event_l1 (a1 : Int) (l918 : (List S37)) (x919 : Int) : Option (((List S37) × Int) ⊕ (((List S37)))) :=
  if (decide (x919 < a1)) = true then ((loop (fun s => slices_stableCmpFunc_api_Event_l2 a1 x919 s.1 s.2.1 s.2.2) (l918, 0, IntKind.i64.wrap (2 * x919))).bind fun t => slices_stableCmpFunc_api_Event_x2_4 a1 x919 t.1 t.2) else (some (.inr (l918)))
noncomputable def slices_stableCmpFunc_api_Event_b1 (a1 : Int) (l217 : (List S37)) (x218 : Int) : Option ((List S37)) :=
  (slices_insertionSortCmpFunc_api_Event l217 x218 a1).bind fun y220 => ((loop (fun s => slices_stableCmpFunc_api_Event_l1 a1 s.1 s.2) (y220, 20)).bind fun t => slices_stableCmpFunc_api_Event_x1_2 t)
noncomputable def slices_stableCmpFunc_api_Event_x3_0 (a1 : Int) (l1289 : (List S37)) (x1290 : Int) : Option ((List S37)) :=
  slices_stableCmpFunc_api_Event_b1 a1 l1289 x1290
noncomputable def slices_stableCmpFunc_api_Event_l3 (a1 : Int) (l1275 : (List S37)) (x1276 : Int) (x1277 : Int) : Option (((List S37) × Int × Int) ⊕ (((List S37) × Int))) :=
  if (decide (x1277 ≤ a1)) = true then ((slices_insertionSortCmpFunc_api_Event l1275 x1276 x1277).bind fun y1297 => (some (.inl (y1297, x1277, IntKind.i64.wrap (x1277 + 20))))) else (some (.inr (l1275, x1276)))
noncomputable def slices_stableCmpFunc_api_Event (a0 : (List S37)) (a1 : Int) : Option ((List S37)) :=
  (loop (fun s => slices_stableCmpFunc_api_Event_l3 a1 s.1 s.2.1 s.2.2) (a0, 0, 20)).bind fun t => slices_stableCmpFunc_api_Event_x3_0 a1 t.1 t.2
noncomputable def slices_SortStableFunc_api_Event_api_Event (a0 : (List S37)) : Option ((List S37)) :=
  (slices_stableCmpFunc_api_Event a0 (a0.length : Int)).bind fun y101 => (some y101)
noncomputable def event_Sort (a0 : (List S37)) : Option ((List S37)) :=
  (slices_Clone_api_Event_api_Event a0).bind fun y103 => ((slices_SortStableFunc_api_Event_api_Event y103).bind fun y109 => (some y109))
noncomputable def law06_awake : Option (Bool) :=
  (event_Sort [(⟨0, 0, 1, [98], 0⟩ : S37), (⟨0, 0, 2, [97], 0⟩ : S37), (⟨0, 0, 1, [97], 0⟩ : S37)]).bind fun y104 => (if ((y104.length : Int) == 3) = true then ((at_ y104 0).bind fun x111 => (if (x111.f3 == [97]) = true then (if (x111.f2 == 1) = true then ((at_ y104 2).bind fun x117 => (if (x117.f3 == [98]) = true then (some true) else (some false))) else (some false)) else (some false))) else (some false))
end Go.Proofs.YthokgnonmcgkcaaGreatDoor.M
