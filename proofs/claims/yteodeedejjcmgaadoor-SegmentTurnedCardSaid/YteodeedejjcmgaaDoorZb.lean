/- Texts of the claim, joined: what it uses of Ei, Ej, Ek, El, Em, En, Eo, Ep, Eh, Eq, Er, Ds, Kd, Es, Gr, Op, Dpg, Mpg, Dpl, Mpl, Dpr, Mpr, Dql, Mql, Dre, Mre, Dce. -/
import Derived.Test.YteodeedejjcmgaaDoorZa
import Derived.Recover
import Derived.Lib.AppendStr
import Derived.Lib.ConvBytes
import Derived.Laws.BytesString
import Derived.Lib.AppendZerosOnto
import Derived.Lib.Overlaps
import Derived.Laws.Strings2
import Derived.Deep.Slices
import Derived.Deep.Fields
import Derived.SizedLaws
import Derived.Below
import Derived.Carry
import Derived.WalkKit
import Derived.ProofKit
import Derived.OpenShut
import Derived.ShutString
import Derived.ChangeOld
import Derived.FnData
import Derived.LaidMore
import Derived.LaidLaws
import Derived.MakeChecks
import Derived.Lib.SlicesCompact
import Derived.Sort.OwnSorted
import Derived.Shelf.SlIter.Collect
import Derived.RangeFuncCalls
import Derived.RangeFuncLeaves
import Derived.RangeFuncRecord
import Derived.RangeFuncSeq
import Derived.OrdersIn
import Derived.TacticsIn
import Derived.OwnWalkIn
import Derived.Laws.StructEq
import Derived.Test.YteodeedejjcmgaaDoorProg
namespace Go.Proofs.YteodeedejjcmgaaDoor.E
open Go Go.RowKit
set_option linter.unusedVariables false
set_option linter.unusedSimpArgs false
def ltt {α β : Type} (x : α) (f : α → Option β) : Option β := f x
def sum_ {α β γ : Type} (x : α ⊕ β) (f : α → Option γ) (g : β → Option γ) : Option γ := match x with
 | .inl a => f a
 | .inr b => g b
theorem ltt_ {α β : Type} {e : α} {f : α → Option β} {y : β} (h : ltt e f = some y) : ∃ x, x = e ∧ f x = some y := ⟨e, rfl, h⟩
theorem sum_l {α β γ : Type} {a : α} {f : α → Option γ} {g : β → Option γ} {y : γ} (h : sum_ (.inl a) f g = some y) : f a = some y := h
theorem sum_r {α β γ : Type} {b : β} {f : α → Option γ} {g : β → Option γ} {y : γ} (h : sum_ (.inr b) f g = some y) : g b = some y := h
section
variable {P : Program} {ops : Array Oper} {Q : Exit → Act → World → Prop} {rest : List Oper} {o : Oper} {a : Act} {w w' : World} {K : Act → World → Prop}
 {n : Nat} {D : List Deferred} {F : List (Nat × Value)} {r : World} {L : List HP} {α : Type} {d : Kd α} {x y c : Operand} {t' e T xt yt : TypeId} {v : Value} {t : Nat} {k : IntKind} {i j : Int} {s u : List UInt8}
theorem rv_i {e : Int} {x : Int} (h : x = e) (hr : RunV P o a w (.int k e)) : RunV P o a w (.int k x) := h ▸ hr
def RetS {ρ π : Type} (P : Program) (f : FuncId) (args : Array Value) (w : World) (ch : List PanicEntry) (y : ρ ⊕ π) (R : ρ → Value → World → Prop) (Rp : π → World → Prop) : Prop := match y with
 | .inl a => Ret P f args w (R a)
 | .inr b => Calls P f args w fun e w' => e = .panicked ch ∧ Rp b w'
theorem RetS.lf {ρ π : Type} {f : FuncId} {args : Array Value} {ch : List PanicEntry} {a : ρ} {R : ρ → Value → World → Prop} {Rp : π → World → Prop} (h : RetS P f args w ch (.inl a) R Rp) : Ret P f args w (R a) := h
theorem RetS.rf {ρ π : Type} {f : FuncId} {args : Array Value} {ch : List PanicEntry} {b : π} {R : ρ → Value → World → Prop} {Rp : π → World → Prop} (h : RetS P f args w ch (.inr b) R Rp) : Calls P f args w fun e w' => e = .panicked ch ∧ Rp b w' := h
theorem enterS {ρ π : Type} {f : FuncId} {fn : Func} {cd : Code} {args : Array Value} {ch : List PanicEntry} {y : ρ ⊕ π} {R : ρ → Value → World → Prop} {Rp : π → World → Prop} {n : Nat} (hf : P.funcs[f]? = some fn) (hb : fn.body = some cd) (hn : fn.ntmps = n)
  (F : List (Nat × Value)) (hF : F.map (fun p => args[p.1]?) = F.map fun p => some p.2) (hle : (args.size ≤ n) = True)
  (h : ∀ a, FR n [] a F → ∀ Qf : Exit → Act → World → Prop, (∀ a0, y = .inl a0 → ∀ a w, bodyPost P fn (fun e w' => ∃ v, e = .returned v ∧ R a0 v w') .ret a w → Qf .ret a w) →
   (∀ a0, y = .inl a0 → ∀ a w, bodyPost P fn (fun e w' => ∃ v, e = .returned v ∧ R a0 v w') .normal a w → Qf .normal a w) →
   (∀ b, y = .inr b → ∀ (a : Act) w, a.defers = [] → Rp b w → Qf (.panic ch) a w) → cd.wp P Qf a w) : RetS P f args w ch y R Rp := by
 cases y with
 | inl a0 => exact enter hf hb hn F hF hle fun a hA Qf h1 h2 => h a hA Qf (fun a1 e a w q => by cases e; exact h1 a w q) (fun a1 e a w q => by cases e; exact h2 a w q) (fun b e => by cases e)
 | inr b =>
  refine calls_of_wp (R := fun e w' => e = .panicked ch ∧ Rp b w') hf hb (h _ ⟨?_, rfl, ?_⟩ _ (fun a0 e => by cases e) (fun a0 e => by cases e) fun b' e a w hd hR => ?_)
  ·have := of_eq_true hle
   simp [hn]; omega
  ·intro t v hv
   clear h
   induction F with
   | nil => cases hv
   | cons p q ih =>
    obtain ⟨k, u⟩ := p
    simp only [List.map_cons, List.cons.injEq] at hF
    simp only [lk] at hv
    by_cases e : Nat.beq k t = true
    ·rw [e] at hv
     have e' := Nat.eq_of_beq_eq_true e
     subst e'
     cases hv
     have hlt := (Array.getElem?_eq_some_iff.1 hF.1).1
     show (args ++ _)[k]? = _
     rw [Array.getElem?_append_left hlt]
     exact hF.1
    ·rw [Bool.eq_false_iff.2 e] at hv
     exact ih hF.2 hv
  ·cases e
   exact ⟨hd, rfl, hR⟩
theorem e_callp {f : FuncId} {fx : Operand} {az : Array Operand} {ts : Array TypeId} {fs vs caps vals : Array Value} {ch : List PanicEntry} {Rp : World → Prop} (hf : EN P f) (ho : o.op = .call { callee := .value fx, args := az, argTypes := ts }) (hfx : a.eval fx = .func (.func f) fs caps) (hargs : az.map a.eval = vs) (hv : fs ++ vs ++ caps = vals)
  (hC : Calls P f vals w fun e w' => e = .panicked ch ∧ Rp w') (hK : ∀ w', Rp w' → Q (.panic ch) a w') : o.wp P a w K Q := by
 have h : (execOp a.eval o).run P w = .ok (.enter f vals) w := by
  unfold execOp; rw [ho]
  simp only [resolve, hfx, Deferred.ofValue, Sem.run_bind, Sem.run_pure, Result.andThen_ok, invoke]
  subst hv
  have := hf (fs ++ vs ++ caps) w
  simpa [hargs] using this
 unfold Oper.wp
 rw [h]
 exact Calls.mono hC fun e w' ⟨he, hR⟩ => by subst he; exact hK w' hR
theorem e_callw {f : FuncId} {fx : Operand} {az : Array Operand} {ts : Array TypeId} {fs vs caps vals : Array Value} {R : Value → World → Prop} (hf : EN P f) (ho : o.op = .call { callee := .value fx, args := az, argTypes := ts }) (hfx : a.eval fx = .func (.func f) fs caps) (hargs : az.map a.eval = vs) (hv : fs ++ vs ++ caps = vals)
  (hC : Ret P f vals w R) (hK : ∀ v w', R v w' → K (a.put o.dst v) w') : o.wp P a w K Q := by
 have h : (execOp a.eval o).run P w = .ok (.enter f vals) w := by
  unfold execOp; rw [ho]
  simp only [resolve, hfx, Deferred.ofValue, Sem.run_bind, Sem.run_pure, Result.andThen_ok, invoke]
  subst hv
  have := hf (fs ++ vs ++ caps) w
  simpa [hargs] using this
 unfold Oper.wp
 rw [h]
 exact Calls.mono hC fun e w' ⟨v, he, hR⟩ => by subst he; exact hK v w' hR
theorem x_callp {f : FuncId} {fx : Operand} {az : Array Operand} {ts : Array TypeId} {fs vs caps vals : Array Value} {ch : List PanicEntry} {Rp : World → Prop} (hf : EN P f) (hA : FR n D a F) (hC : Calls P f vals w fun e w' => e = .panicked ch ∧ Rp w') (kk : ∀ w', Rp w' → Q (.panic ch) a w')
  (ho : o.op = .call { callee := .value fx, args := az, argTypes := ts } := by rfl) (hfx : ev F fx = some (.func (.func f) fs caps) := by rfl) (hargs : az.toList.map (ev F) = vs.toList.map some := by rfl) (hv : fs ++ vs ++ caps = vals := by rfl) (hg : o.guard = none := by rfl) : wpList P ops Q (o :: rest) a w :=
 wl_eff hg fun K hK => e_callp hf ho (hA.ev hfx) (evs hA hargs) hv hC kk
theorem x_callp' {f : FuncId} {fx : Operand} {az : Array Operand} {ts : Array TypeId} {fs vs caps vals : Array Value} {ch : List PanicEntry} {Rp : World → Prop} (hf : EN P f) (hA : FR n D a F) (hC : Calls P f vals w fun e w' => e = .panicked ch ∧ Rp w') (kk : ∀ w', Rp w' → Q (.panic ch) a w') (h_ : (o.op, ev F fx, az.toList.map (ev F), fs ++ vs ++ caps, o.guard) = (.call { callee := .value fx, args := az, argTypes := ts }, some (.func (.func f) fs caps), vs.toList.map some, vals, none)) : wpList P ops Q (o :: rest) a w := x_callp (hf := hf) (hA := hA) (hC := hC) (kk := kk) (congrArg (·.1) h_) (congrArg (·.2.1) h_) (congrArg (·.2.2.1) h_) (congrArg (·.2.2.2.1) h_) (congrArg (·.2.2.2.2) h_)
theorem z_callp {f : FuncId} {fx : Operand} {az : Array Operand} {ts : Array TypeId} {fs vs caps vals : Array Value} {ch : List PanicEntry} {Rp : World → Prop} (hf : EN P f) (hA : FR n D a F) (hC : Calls P f vals w fun e w' => e = .panicked ch ∧ Rp w') (kk : ∀ w', Rp w' → Q (.panic ch) a w')
  (ho : o.op = .call { callee := .value fx, args := az, argTypes := ts } := by rfl) (hfx : ev F fx = some (.func (.func f) fs caps) := by rfl) (hargs : az.toList.map (ev F) = vs.toList.map some := by rfl) (hv : fs ++ vs ++ caps = vals := by rfl) : o.wp P a w K Q := e_callp hf ho (hA.ev hfx) (evs hA hargs) hv hC kk
theorem z_callp' {f : FuncId} {fx : Operand} {az : Array Operand} {ts : Array TypeId} {fs vs caps vals : Array Value} {ch : List PanicEntry} {Rp : World → Prop} (hf : EN P f) (hA : FR n D a F) (hC : Calls P f vals w fun e w' => e = .panicked ch ∧ Rp w') (kk : ∀ w', Rp w' → Q (.panic ch) a w') (h_ : (o.op, ev F fx, az.toList.map (ev F), fs ++ vs ++ caps) = (.call { callee := .value fx, args := az, argTypes := ts }, some (.func (.func f) fs caps), vs.toList.map some, vals)) : o.wp P a w K Q := z_callp (hf := hf) (hA := hA) (hC := hC) (kk := kk) (congrArg (·.1) h_) (congrArg (·.2.1) h_) (congrArg (·.2.2.1) h_) (congrArg (·.2.2.2) h_)
theorem x_callw {f : FuncId} {fx : Operand} {az : Array Operand} {ts : Array TypeId} {fs vs caps vals : Array Value} {R : Value → World → Prop} (hf : EN P f) (hA : FR n D a F) (hC : Ret P f vals w R) (kk : ∀ v a' w', R v w' → FR n D a' ((t, v) :: F) → wpList P ops Q rest a' w')
  (ho : o.op = .call { callee := .value fx, args := az, argTypes := ts } := by rfl) (hfx : ev F fx = some (.func (.func f) fs caps) := by rfl) (hargs : az.toList.map (ev F) = vs.toList.map some := by rfl) (hv : fs ++ vs ++ caps = vals := by rfl) (hd : o.dst = some t := by rfl) (hg : o.guard = none := by rfl) (ht : Nat.blt t n = true := by rfl) : wpList P ops Q (o :: rest) a w :=
 wl_eff hg fun K hK => e_callw hf ho (hA.ev hfx) (evs hA hargs) hv hC fun v w' hR => hK _ _ (kk v _ w' hR (by rw [hd]; exact hA.put t _ (by have := Nat.le_of_ble_eq_true ht; omega)))
theorem x_callw' {f : FuncId} {fx : Operand} {az : Array Operand} {ts : Array TypeId} {fs vs caps vals : Array Value} {R : Value → World → Prop} (hf : EN P f) (hA : FR n D a F) (hC : Ret P f vals w R) (kk : ∀ v a' w', R v w' → FR n D a' ((t, v) :: F) → wpList P ops Q rest a' w') (h_ : (o.op, ev F fx, az.toList.map (ev F), fs ++ vs ++ caps, o.dst, o.guard, Nat.blt t n) = (.call { callee := .value fx, args := az, argTypes := ts }, some (.func (.func f) fs caps), vs.toList.map some, vals, some t, none, true)) : wpList P ops Q (o :: rest) a w := x_callw (hf := hf) (hA := hA) (hC := hC) (kk := kk) (congrArg (·.1) h_) (congrArg (·.2.1) h_) (congrArg (·.2.2.1) h_) (congrArg (·.2.2.2.1) h_) (congrArg (·.2.2.2.2.1) h_) (congrArg (·.2.2.2.2.2.1) h_) (congrArg (·.2.2.2.2.2.2) h_)
theorem z_callw {f : FuncId} {fx : Operand} {az : Array Operand} {ts : Array TypeId} {fs vs caps vals : Array Value} {R : Value → World → Prop} (hf : EN P f) (hA : FR n D a F) (hC : Ret P f vals w R) (kk : ∀ v w', R v w' → K (a.put o.dst v) w')
  (ho : o.op = .call { callee := .value fx, args := az, argTypes := ts } := by rfl) (hfx : ev F fx = some (.func (.func f) fs caps) := by rfl) (hargs : az.toList.map (ev F) = vs.toList.map some := by rfl) (hv : fs ++ vs ++ caps = vals := by rfl) : o.wp P a w K Q := e_callw hf ho (hA.ev hfx) (evs hA hargs) hv hC kk
theorem z_callw' {f : FuncId} {fx : Operand} {az : Array Operand} {ts : Array TypeId} {fs vs caps vals : Array Value} {R : Value → World → Prop} (hf : EN P f) (hA : FR n D a F) (hC : Ret P f vals w R) (kk : ∀ v w', R v w' → K (a.put o.dst v) w') (h_ : (o.op, ev F fx, az.toList.map (ev F), fs ++ vs ++ caps) = (.call { callee := .value fx, args := az, argTypes := ts }, some (.func (.func f) fs caps), vs.toList.map some, vals)) : o.wp P a w K Q := z_callw (hf := hf) (hA := hA) (hC := hC) (kk := kk) (congrArg (·.1) h_) (congrArg (·.2.1) h_) (congrArg (·.2.2.1) h_) (congrArg (·.2.2.2) h_)
theorem e_panic {ty : TypeId} {v0 : Value} (ho : o.op = .panic x) (hx : a.eval x = .iface ty v0) (hK : Q (.panic [{ v := .iface ty v0, recovered := false }]) a w) : o.wp P a w K Q := by
 have h : (execOp a.eval o).run P w = .halt (.panic (.iface ty v0)) w := by
  unfold execOp; rw [ho]
  simp only [hx]
  rfl
 unfold Oper.wp
 rw [h]
 exact hK
theorem x_panic {ty : TypeId} {v0 : Value} (hA : FR n D a F) (hK : Q (.panic [{ v := .iface ty v0, recovered := false }]) a w) (ho : o.op = .panic x := by rfl) (hx : ev F x = some (.iface ty v0) := by rfl) (hg : o.guard = none := by rfl) : wpList P ops Q (o :: rest) a w :=
 wl_eff hg fun K hK' => e_panic ho (hA.ev hx) hK
theorem x_panic' {ty : TypeId} {v0 : Value} (hA : FR n D a F) (hK : Q (.panic [{ v := .iface ty v0, recovered := false }]) a w) (h_ : (o.op, ev F x, o.guard) = (.panic x, some (.iface ty v0), none)) : wpList P ops Q (o :: rest) a w := x_panic (hA := hA) (hK := hK) (congrArg (·.1) h_) (congrArg (·.2.1) h_) (congrArg (·.2.2) h_)
theorem r_makeI {ds : TypeDesc} {vx : Value} (hu : P.underlying xt = some ds) (hn : (match ds with | .interface _ => false | _ => true) = true) (ho : o.op = .makeInterface xt x) (hx : a.eval x = vx) : RunV P o a w (.iface xt vx) := by
 unfold RunV execOp; rw [ho]
 simp only [hx, Instr.makeInterface, Sem.run_bind, run_underlying hu]
 cases ds <;> first | rfl | cases hn
theorem e_defer {f : FuncId} {fx : Operand} {az : Array Operand} {ts : Array TypeId} {fs vs caps : Array Value} (ho : o.op = .defer { callee := .value fx, args := az, argTypes := ts }) (hfx : a.eval fx = .func (.func f) fs caps) (hargs : az.map a.eval = vs)
  (hK : K ({ a with defers := { target := .fn (.func f) caps, args := fs ++ vs } :: a.defers }.put o.dst undef) w) : o.wp P a w K Q := by
 have h : (execOp a.eval o).run P w = .ok (.defer { target := .fn (.func f) caps, args := fs ++ vs }) w := by
  unfold execOp; rw [ho]
  simp only [resolve, hfx, Deferred.ofValue, Sem.run_bind, Sem.run_pure, Result.andThen_ok, hargs]
 unfold Oper.wp
 rw [h]
 exact hK
theorem FR.defer (h : FR n D a F) (d : Deferred) : FR n (d :: D) { a with defers := d :: a.defers } F := ⟨h.size, by show d :: a.defers = _; rw [h.defers], h.at_⟩
theorem x_defer {f : FuncId} {fx : Operand} {az : Array Operand} {ts : Array TypeId} {fs vs caps : Array Value} (hA : FR n D a F) (kk : ∀ a', FR n ({ target := .fn (.func f) caps, args := fs ++ vs } :: D) a' F → wpList P ops Q rest a' w)
  (ho : o.op = .defer { callee := .value fx, args := az, argTypes := ts } := by rfl) (hfx : ev F fx = some (.func (.func f) fs caps) := by rfl) (hargs : az.toList.map (ev F) = vs.toList.map some := by rfl) (hd : o.dst = none := by rfl) (hg : o.guard = none := by rfl) : wpList P ops Q (o :: rest) a w :=
 wl_eff hg fun K hK => e_defer ho (hA.ev hfx) (evs hA hargs) (hK _ _ (kk _ (by rw [hd]; exact hA.defer _)))
theorem enterD {f : FuncId} {fn : Func} {cd : Code} {args : Array Value} {R : Value → World → Prop} {n : Nat} (hf : P.funcs[f]? = some fn) (hb : fn.body = some cd) (hn : fn.ntmps = n)
  (F : List (Nat × Value)) (hF : F.map (fun p => args[p.1]?) = F.map fun p => some p.2) (hle : (args.size ≤ n) = True)
  (h : ∀ a, FR n [] a F → cd.wp P (bodyPostD P fn (fun e w' => ∃ v, e = .returned v ∧ R v w')) a w) : Ret P f args w R := by
 refine calls_of_wp_defers hf hb (h _ ⟨?_, rfl, ?_⟩)
 ·have := of_eq_true hle
  simp [hn]; omega
 ·intro t v hv
  clear h
  induction F with
  | nil => cases hv
  | cons p q ih =>
   obtain ⟨k, u⟩ := p
   simp only [List.map_cons, List.cons.injEq] at hF
   simp only [lk] at hv
   by_cases e : Nat.beq k t = true
   ·rw [e] at hv
    have e' := Nat.eq_of_beq_eq_true e
    subst e'
    cases hv
    have hlt := (Array.getElem?_eq_some_iff.1 hF.1).1
    show (args ++ _)[k]? = _
    rw [Array.getElem?_append_left hlt]
    exact hF.1
   ·rw [Bool.eq_false_iff.2 e] at hv
    exact ih hF.2 hv
def stb (s : List UInt8) : List Int := s.map fun b => (b.toNat : Int)
theorem strCells_eq (s : List UInt8) : Lib.strCells ⟨s.toArray⟩ = (stb s).map fun n => Value.int .u8 n := by simp [Lib.strCells, stb]
theorem lay_u8 : ∀ l : List Int, Lay (kI .u8) l (l.map fun n => Value.int .u8 n)
 | [] => rfl
 | x :: l => ⟨[.int .u8 x], _, rfl, rfl, lay_u8 l⟩
theorem e_appS (i : Nat) {n1 c : Nat} {A : Option Addr} {xs : List Int} {L' : List HP} {t u : TypeId} (hS : SH r L w) (hL : pk i L = own (kI .u8) e A n1 c xs :: L')
  (ht : P.underlying t = some (.slice e)) (hu : P.underlying u = some .string) (hi : (P.info? e).map (fun i => (i.zero, i.size, i.bytes)) = some (some (.int .u8 0), 1, 1))
  (ho : o.op = .call { callee := .builtin .append, args := #[x, y], argTypes := #[t, u] }) (hx : a.eval x = .slice A n1 c) (hy : a.eval y = str s) (hb : xs.length + s.length ≤ 140737488355328 / 1)
  (hK : ∀ A' n' c' w', SH r (own (kI .u8) e A' n' c' (xs ++ stb s) :: L') w' → K (a.put o.dst (.slice A' n' c')) w') : o.wp P a w K Q := by
 have hS' := hS.pk i
 rw [hL] at hS'
 obtain ⟨S1, S2, h1, h2, hd, ⟨hn1, ⟨inner, hLay, hown⟩, hSo⟩, hsep⟩ := hS'.sep
 subst hn1
 obtain ⟨inf, hi1, hi2, hi3, hi4⟩ := info_parts hi
 have hsz : (⟨s.toArray⟩ : ByteArray).size = s.length := ba_size s
 have hbm : xs.length + s.length ≤ maxLen := by simp only [maxLen]; omega
 obtain ⟨v', w', hrun, hown', hg, _⟩ := Lib.run_append_own_string (P := P) w 0 t u o.type e inf ht hu hi1 hi2 hi3 hi4 _ _ _ hown ⟨s.toArray⟩ (by rw [hsz]; exact hbm) (by rw [hsz]; omega) (Nat.zero_le _)
 rw [hsz] at hown'
 have hat : v'.ownBlock = (Value.slice A xs.length c).ownBlock ∨ ∃ k, v'.ownBlock = some k ∧ w.heap.size ≤ k := by
  rcases hown.2 with ⟨hv, hn⟩ | ⟨g, cap, cur, hv, hg0, hh, hnc, hcm, hs, htk⟩
  ·injection hv with hA hn' hc
   subst hA hc
   rw [hn'] at hrun hown
   obtain ⟨v2, w2, hrun2, hown2, hg2, _⟩ := Lib.run_append_own_string (P := P) w w.heap.size t u o.type e inf ht hu hi1 hi2 hi3 hi4 _ _ _ (show w.ownsRow w.heap.size e 1 (.slice none 0 0) 0 [] from World.ownsRow_nil w w.heap.size e 1) ⟨s.toArray⟩ (by rw [hsz]; omega) (by rw [hsz]; omega) (Nat.le_refl _)
   rw [hrun] at hrun2
   cases hrun2
   rcases hb' : v'.ownBlock with _ | k
   ·left; simp [Value.ownBlock]
   ·exact .inr ⟨k, rfl, (hown2.lt k hb').1⟩
  ·injection hv with hA hn' hc
   subst hA hc
   by_cases hroom : xs.length + s.length ≤ c
   ·have hsz1 : inf.size = 1 := hi3
    have := Lib.run_append_room_string (P := P) w t u o.type e inf ht hu hi1 hsz1 g xs.length c cur hh ⟨s.toArray⟩ (by rw [hsz]; exact hroom) (by rw [hsz, hs]; show _ ≤ c * 1; omega)
    rw [hrun] at this
    cases this
    exact .inl rfl
   ·have := Lib.run_append_grow_string (P := P) w t u o.type e inf _ ht hu hi1 hi2 ⟨g, 0, none⟩ xs.length c inner (by rw [hLay.length, hi3]; rfl) (hown.cells (g := g) rfl) ⟨s.toArray⟩ (by rw [hsz]; omega) (by rw [hsz]; omega) (growslice_fits (by rw [hsz]; omega) (by rw [hsz, hi4]; omega))
    rw [hrun] at this
    cases this
    exact .inr ⟨_, rfl, Nat.le_refl _⟩
 have hv : ∃ A' c', v' = .slice A' (xs.length + s.length) c' := by
  rcases hown'.2 with ⟨rfl, hn⟩ | ⟨g, cap, cur, rfl, _⟩
  ·exact ⟨none, 0, by rw [hn]⟩
  ·exact ⟨_, _, rfl⟩
 obtain ⟨A', c', rfl⟩ := hv
 have h : (execOp a.eval o).run P w = .ok (.value (.slice A' (xs.length + s.length) c')) w' := by
  unfold execOp; rw [ho]
  simp only [resolve, Sem.run_bind, Sem.run_pure, Result.andThen_ok, invoke]
  have e1 : #[x, y].map a.eval = #[.slice A xs.length c, .string ⟨s.toArray⟩] := by simp [hx, hy, str]
  rw [e1]
  show (do pure (.value (← Builtin.append_ #[t, u] o.type _)) : Sem Next).run P w = _
  rw [Sem.run_bind, hrun]
  rfl
 unfold Oper.wp
 rw [h]
 have hlen : (stb s).length = s.length := by simp [stb]
 refine hK _ _ _ _ (hS'.upd h1 h2 hd hsep hg.os hg.tape hg.output hg.size (fun k hk hk1 => hg.block k hk fun e => hk1 (hSo k e.symm)) (Ls := [own (kI .u8) e A' (xs.length + s.length) c' (xs ++ stb s)]) fun S hS1 hS2 _ =>
  ⟨S, fun _ => False, fun _ h => h, fun _ h => h.elim, fun _ _ h => h, ⟨by simp [hlen], ⟨_, hLay.append (lay_u8 _), by rw [List.length_append, hlen, ← strCells_eq]; exact hown'⟩, fun g hg' => ?_⟩, trivial⟩)
 rw [List.length_append, hlen] at hg'
 rcases hat with h | ⟨k, h, hk⟩
 ·rw [h] at hg'; exact hS1 _ (hSo _ hg')
 ·have hlt := (hown'.lt g hg').2
  rw [h] at hg'
  cases hg'
  exact hS2 _ hk hlt
theorem x_appS (q : Nat) {n1 c1 : Nat} {A : Option Addr} {xs : List Int} {L' : List HP} {t0 u0 : TypeId} (hi : (P.info? e).map (fun i => (i.zero, i.size, i.bytes)) = some (some (.int .u8 0), 1, 1)) (ht' : P.underlying t0 = some (.slice e)) (hu : P.underlying u0 = some .string) (hA : FR n D a F) (hS : SH r L w)
  (hb : xs.length + s.length ≤ 140737488355328 / 1) (hL : pk q L = own (kI .u8) e A n1 c1 xs :: L')
  (kk : ∀ A' n' c' a' w', SH r (own (kI .u8) e A' n' c' (xs ++ stb s) :: L') w' → FR n D a' ((t, .slice A' n' c') :: F) → wpList P ops Q rest a' w')
  (ho : o.op = .call { callee := .builtin .append, args := #[x, y], argTypes := #[t0, u0] } := by rfl) (hx : ev F x = some (.slice A n1 c1) := by rfl) (hy : ev F y = some (str s) := by rfl)
  (hd : o.dst = some t := by rfl) (hg : o.guard = none := by rfl) (ht : Nat.blt t n = true := by rfl) : wpList P ops Q (o :: rest) a w :=
 wl_eff hg fun K hK => e_appS q hS hL ht' hu hi ho (hA.ev hx) (hA.ev hy) hb fun A' n' c' w' hS' => hK _ _ (kk A' n' c' _ w' hS' (by rw [hd]; exact hA.put t _ (by have := Nat.le_of_ble_eq_true ht; omega)))
theorem x_appS' (q : Nat) {n1 c1 : Nat} {A : Option Addr} {xs : List Int} {L' : List HP} {t0 u0 : TypeId} (hi : (P.info? e).map (fun i => (i.zero, i.size, i.bytes)) = some (some (.int .u8 0), 1, 1)) (ht' : P.underlying t0 = some (.slice e)) (hu : P.underlying u0 = some .string) (hA : FR n D a F) (hS : SH r L w)
  (hb : xs.length + s.length ≤ 140737488355328 / 1) (hL : pk q L = own (kI .u8) e A n1 c1 xs :: L')
  (kk : ∀ A' n' c' a' w', SH r (own (kI .u8) e A' n' c' (xs ++ stb s) :: L') w' → FR n D a' ((t, .slice A' n' c') :: F) → wpList P ops Q rest a' w') (h_ : (o.op, ev F x, ev F y, o.dst, o.guard, Nat.blt t n) = (.call { callee := .builtin .append, args := #[x, y], argTypes := #[t0, u0] }, some (.slice A n1 c1), some (str s), some t, none, true)) : wpList P ops Q (o :: rest) a w := x_appS (q := q) (hi := hi) (ht' := ht') (hu := hu) (hA := hA) (hS := hS) (hb := hb) (hL := hL) (kk := kk) (congrArg (·.1) h_) (congrArg (·.2.1) h_) (congrArg (·.2.2.1) h_) (congrArg (·.2.2.2.1) h_) (congrArg (·.2.2.2.2.1) h_) (congrArg (·.2.2.2.2.2) h_)
def bts (l : List Int) : List UInt8 := l.map fun n => UInt8.ofNat n.toNat
theorem bts_stb (s : List UInt8) : bts (stb s) = s := by
 induction s with
 | nil => rfl
 | cons b s ih => show UInt8.ofNat (b.toNat : Int).toNat :: bts (stb s) = _; rw [ih]; simp
theorem r_b2s {A : Option Addr} {m c : Nat} {xs : List Int} (hs : P.underlying xt = some (.slice e)) (he : P.underlying e = some (.int .u8)) (hd : P.underlying yt = some .string) (hr : Rd (kI .u8) w A xs ∧ xs.length = m ∧ m ≤ c ∧ c ≤ maxLen)
  (ho : o.op = .convert xt yt x) (hx : a.eval x = .slice A m c) : RunV P o a w (str (bts xs)) := by
 unfold RunV execOp; rw [ho]
 simp only [hx, Sem.run_bind, run_convert_bytes_string w xt yt e A m c hs he hd]
 obtain ⟨h1, h2, h3, h4⟩ := hr
 have key : (Conv.bytesToString (.slice A m c)).run P w = .ok (str (bts xs)) w := by
  have hfold : ∀ (l : List Int) (b : ByteArray), l.foldl (fun r n => r.push (UInt8.ofNat n.toNat)) b = ⟨b.data ++ (bts l).toArray⟩ := by
   intro l
   induction l with
   | nil => intro b; simp [bts]
   | cons n l ih => intro b; rw [List.foldl_cons, ih]; simp [bts, ByteArray.push]
  rcases A with _ | ad
  ·have : xs = [] := by
    rcases Nat.eq_zero_or_pos xs.length with h | h
    ·exact List.eq_nil_of_length_eq_zero h
    ·obtain ⟨_, h', _⟩ := h1 h; cases h'
   subst this
   rfl
  ·have hl : (loadCells ad m).run P w = .ok (xs.map (Value.int .u8)).toArray w := by
    subst h2
    have hc : ∀ j u, (xs.map (Value.int .u8))[j]? = some u → w.cell? (ad.add j) = some u := by
     intro j u hj
     rw [List.getElem?_map, Option.map_eq_some_iff] at hj
     obtain ⟨n, hn, rfl⟩ := hj
     obtain ⟨ad', hA, hra⟩ := h1 (by have := (List.getElem?_eq_some_iff.1 hn).1; omega)
     cases hA
     obtain ⟨cs, hcs, hg⟩ := hra j n hn
     have := hg 0 (.int .u8 n) (by rw [show cs = [.int .u8 n] from hcs]; rfl)
     simpa [kI] using this
    have := run_loadCells_list (P := P) w ad (xs.map (Value.int .u8)) hc
    simpa using this
   rw [run_bytesToString w ad m c xs hl, hfold]
   simp [str]
 rw [key]
 rfl
theorem x_b2s {A : Option Addr} {m c : Nat} {xs : List Int} (hs : P.underlying xt = some (.slice e)) (he : P.underlying e = some (.int .u8)) (hd' : P.underlying yt = some .string) (hr : Rd (kI .u8) w A xs ∧ xs.length = m ∧ m ≤ c ∧ c ≤ maxLen) (hA : FR n D a F) (kk : ∀ a', FR n D a' ((t, str (bts xs)) :: F) → wpList P ops Q rest a' w)
  (ho : o.op = .convert xt yt x := by rfl) (hx : ev F x = some (.slice A m c) := by rfl) (hd : o.dst = some t := by rfl) (hg : o.guard = none := by rfl) (ht : Nat.blt t n = true := by rfl) : wpList P ops Q (o :: rest) a w := x_val hA (r_b2s hs he hd' hr ho (hA.ev hx)) kk hd hg ht
theorem x_b2s' {A : Option Addr} {m c : Nat} {xs : List Int} (hs : P.underlying xt = some (.slice e)) (he : P.underlying e = some (.int .u8)) (hd' : P.underlying yt = some .string) (hr : Rd (kI .u8) w A xs ∧ xs.length = m ∧ m ≤ c ∧ c ≤ maxLen) (hA : FR n D a F) (kk : ∀ a', FR n D a' ((t, str (bts xs)) :: F) → wpList P ops Q rest a' w) (h_ : (o.op, ev F x, o.dst, o.guard, Nat.blt t n) = (.convert xt yt x, some (.slice A m c), some t, none, true)) : wpList P ops Q (o :: rest) a w := x_b2s (hs := hs) (he := he) (hd' := hd') (hr := hr) (hA := hA) (kk := kk) (congrArg (·.1) h_) (congrArg (·.2.1) h_) (congrArg (·.2.2.1) h_) (congrArg (·.2.2.2.1) h_) (congrArg (·.2.2.2.2) h_)
def ownm (e : TypeId) (A : Option Addr) (n c : Nat) (xs : List Int) : HP where
 P w S := xs.length = n ∧ n ≤ c ∧ c ≤ maxLen ∧ ∃ g, A = some ⟨g, 0, none⟩ ∧ S g ∧ RdA (kI .u8) w ⟨g, 0, none⟩ xs
 fr h hk := by
  obtain ⟨h1, h2, h3, g, h4, h5, h6⟩ := h
  refine ⟨h1, h2, h3, g, h4, h5, fun j x hx => ?_⟩
  obtain ⟨cs, hV, hc⟩ := h6 j x hx
  exact ⟨cs, hV, fun q u hu => by rw [← hc q u hu]; exact World.cell?_of_block (by rw [add_block]; exact hk _ h5)⟩
 mono h hs := by
  obtain ⟨h1, h2, h3, g, h4, h5, h6⟩ := h
  exact ⟨h1, h2, h3, g, h4, hs _ h5, h6⟩
theorem RdL.ownm {A : Option Addr} {m c : Nat} {xs : List Int} (i : Nat) (hi : L[i]? = some (E.ownm e A m c xs)) (h : SH r L w) : RdL L (kI .u8) A m c xs := by
 obtain ⟨S, h1, h2, h3, g, hA, h5, h6⟩ := h.get i hi
 refine ⟨h1, by omega, h3, fun w' S' h' _ => ?_⟩
 obtain ⟨S2, q1, q2, q3, g2, hA2, q5, q6⟩ := SH.getL i hi h'
 exact ⟨_, hA2, q6⟩
theorem SH.freezem {Z : Nat → Prop} {wz : World} {A : Option Addr} {m c : Nat} {xs : List Int} (h : SH r (E.ownm e A m c xs :: zone Z wz :: L) w) :
  ∃ Z' wz', SH r (zone Z' wz' :: L) w ∧ Imm Z' wz' (kI .u8) A m c xs ∧ Sub Z wz Z' wz' := by
 obtain ⟨S1, S2, h1, h2, hd, ⟨q1, q2, q3, g, q4, q5, q6⟩, S3, S4, h3, h4, hd', hB, hL⟩ := h.sep
 exact ⟨fun k => S1 k ∨ S3 k, w, ⟨h.os, h.tape, h.output, fun k => S1 k ∨ S3 k, S4, fun k q => q.elim (h1 k) (fun q => h2 k (h3 k q)), fun k q => h2 k (h4 k q), fun k q q4 => q.elim (fun q => hd k q (h4 k q4)) (fun q => hd' k q q4),
  ⟨fun _ q => q, fun _ _ => rfl⟩, hL⟩, ⟨q1, by omega, q3, fun hpos => ⟨_, q4, .inl q5, q6⟩⟩, fun k hk => ⟨.inr (hB.1 k hk), hB.2 k hk⟩⟩
theorem e_s2b (hs : P.underlying yt = some (.slice e)) (he : P.underlying e = some (.int .u8)) (hd : P.underlying xt = some .string) (hS : SH r L w) (ho : o.op = .convert xt yt x) (hx : a.eval x = str s) (hl : s.length ≤ maxLen)
  (hK : ∀ A n c w', SH r (ownm e A n c (stb s) :: L) w' → K (a.put o.dst (.slice A n c)) w') : o.wp P a w K Q := by
 have hsz : (⟨s.toArray⟩ : ByteArray).size = s.length := ba_size s
 have h : (execOp a.eval o).run P w = .ok (.value (.slice (some ⟨w.heap.size, 0, none⟩) s.length (grownCap w s.length 0 e))) (Lib.bytesWorld w e ⟨s.toArray⟩) := by
  unfold execOp; rw [ho]
  simp only [hx, str, Sem.run_bind]
  rw [Lib.run_convert_string_bytes w xt yt e ⟨s.toArray⟩ hd hs he, hsz]
  rfl
 unfold Oper.wp
 rw [h]
 refine hK _ _ _ _ (hS.new (w' := Lib.bytesWorld w e ⟨s.toArray⟩) rfl rfl rfl (by rw [Lib.bytesWorld_size]; omega) (fun k hk => Lib.bytesWorld_at_old w e _ k hk) (Ls := [ownm e (some ⟨w.heap.size, 0, none⟩) s.length (grownCap w s.length 0 e) (stb s)]) fun S hS' =>
  ⟨S, fun _ => False, fun _ h => h, fun _ h => h.elim, fun _ _ h => h, ⟨by simp [stb], grownCap_ge w _ _ e, grownCap_le_maxLen w _ _ e hl, _, rfl, hS' _ (Nat.le_refl _) (by rw [Lib.bytesWorld_size]; omega), fun j x hx => ⟨_, rfl, fun q u hu => ?_⟩⟩, trivial⟩)
 cases q with
 | succ q => simp at hu
 | zero =>
  simp only [List.getElem?_cons_zero, Option.some.injEq] at hu
  subst hu
  unfold stb at hx
  rw [List.getElem?_map, Option.map_eq_some_iff] at hx
  obtain ⟨b, hb, rfl⟩ := hx
  have hj := (List.getElem?_eq_some_iff.1 hb).1
  have := Lib.bytesWorld_cell w e ⟨s.toArray⟩ j (by rw [hsz]; exact hj)
  rw [show j * (kI .u8).sz + 0 = j by show j * 1 + 0 = j; omega, add_mk, Nat.zero_add, this]
  simp [List.getD, hb]
theorem x_s2b (hs : P.underlying yt = some (.slice e)) (he : P.underlying e = some (.int .u8)) (hd' : P.underlying xt = some .string) (hA : FR n D a F) (hS : SH r L w) (hl : s.length ≤ maxLen) (kk : ∀ A m c a' w', SH r (ownm e A m c (stb s) :: L) w' → FR n D a' ((t, .slice A m c) :: F) → wpList P ops Q rest a' w')
  (ho : o.op = .convert xt yt x := by rfl) (hx : ev F x = some (str s) := by rfl) (hd : o.dst = some t := by rfl) (hg : o.guard = none := by rfl) (ht : Nat.blt t n = true := by rfl) : wpList P ops Q (o :: rest) a w :=
 wl_eff hg fun K hK => e_s2b hs he hd' hS ho (hA.ev hx) hl fun A m c w' hS' => hK _ _ (kk A m c _ w' hS' (by rw [hd]; exact hA.put t _ (by have := Nat.le_of_ble_eq_true ht; omega)))
theorem x_s2b' (hs : P.underlying yt = some (.slice e)) (he : P.underlying e = some (.int .u8)) (hd' : P.underlying xt = some .string) (hA : FR n D a F) (hS : SH r L w) (hl : s.length ≤ maxLen) (kk : ∀ A m c a' w', SH r (ownm e A m c (stb s) :: L) w' → FR n D a' ((t, .slice A m c) :: F) → wpList P ops Q rest a' w') (h_ : (o.op, ev F x, o.dst, o.guard, Nat.blt t n) = (.convert xt yt x, some (str s), some t, none, true)) : wpList P ops Q (o :: rest) a w := x_s2b (hs := hs) (he := he) (hd' := hd') (hA := hA) (hS := hS) (hl := hl) (kk := kk) (congrArg (·.1) h_) (congrArg (·.2.1) h_) (congrArg (·.2.2.1) h_) (congrArg (·.2.2.2.1) h_) (congrArg (·.2.2.2.2) h_)
theorem r_neIfNil {ty : TypeId} {v0 : Value} {ms : Array (String × TypeId)} (hu : P.underlying xt = some (.interface ms)) (ho : o.op = .binOp .neq xt x y yt) (hx : a.eval x = .iface ty v0) (hy : a.eval y = .nilIface) : RunV P o a w (.bool true) :=
 r_bin ho hx hy fun w => by
  show (do pure (.bool (!(← Op.equal xt (.iface ty v0) .nilIface))) : Sem Value).run P w = _
  rw [Sem.run_bind, equal_of (b := false) fun d => by simp [Op.equalIn, run_underlying hu]]; rfl
theorem r_neNilIf {ms : Array (String × TypeId)} (hu : P.underlying xt = some (.interface ms)) (ho : o.op = .binOp .neq xt x (.const .nilIface) yt) (hx : a.eval x = .nilIface) : RunV P o a w (.bool false) := by
 unfold RunV execOp; rw [ho]
 simp only [hx, show a.eval (.const .nilIface) = .nilIface from rfl]
 have h1 : (eqGuard .neq xt x (.const .nilIface) .nilIface .nilIface).run P w = .ok () w := by
  unfold eqGuard; cases x <;> simp
 have h2 : (binOp .neq xt .nilIface .nilIface).run P w = .ok (.bool false) w := by
  show (do pure (.bool (!(← Op.equal xt .nilIface .nilIface))) : Sem Value).run P w = _
  rw [Sem.run_bind, equal_of (b := true) fun d => by simp [Op.equalIn, run_underlying hu]]; rfl
 simp only [Sem.run_bind, h1, Result.andThen_ok, h2]
 rfl
theorem r_typeAssert {xty ty : TypeId} {v0 : Value} {ds : TypeDesc} (hu : P.underlying ty = some ds) (hn : (match ds with | .interface _ => false | _ => true) = true) (ho : o.op = .typeAssert x xty ty true) (hx : a.eval x = .iface ty v0) : RunV P o a w (.tuple #[v0, .bool true]) := by
 unfold RunV execOp; rw [ho]
 simp only [hx, Instr.typeAssert, Sem.run_bind, run_underlying hu, Result.andThen_ok]
 cases ds <;> first | (simp; done) | cases hn
theorem Ret.mono_ {f : FuncId} {args : Array Value} {R R' : Value → World → Prop} (h : Ret P f args w R) (hr : ∀ v w', R v w' → R' v w') : Ret P f args w R' :=
 Calls.mono h fun e w' ⟨v, he, hR⟩ => ⟨v, he, hr v w' hR⟩
theorem SH.unpure {p : Prop} (h : SH r (pure' p :: L) w) : p ∧ SH r L w := by
 obtain ⟨S1, S2, h1, h2, hd, hA, hL⟩ := h.sep
 exact ⟨hA, h.tail⟩
theorem SH.pure_ {p : Prop} (hp : p) (h : SH r L w) : SH r (pure' p :: L) w :=
 ⟨h.os, h.tape, h.output, fun _ => False, _, fun _ h => h.elim, fun _ h => h, fun _ h => h.elim, hp, h.sep⟩
end
abbrev Hd := Option Addr × Nat × Nat
section
variable {r w : World} {L : List HP} {α β : Type} {dp : Kd (α × Hd)} {d : Kd β} {e e' : TypeId} {g : α → List β} {A : Option Addr} {n c : Nat} {xs : List α} {ps : List (α × Hd)}
theorem SH.tl {B : HP} {L L' : List HP} (h : SH r (B :: L) w) (hi : ∀ S, Sep L w S → Sep L' w S) : SH r (B :: L') w := by
 obtain ⟨S1, S2, h1, h2, hd, hB, hL⟩ := h.sep
 exact ⟨h.os, h.tape, h.output, S1, S2, h1, h2, hd, hB, hi _ hL⟩
theorem SH.sh {L' : List HP} (h : SH r L w) (hi : ∀ S, Sep L w S → Sep L' w S) : SH r L' w := ⟨h.os, h.tape, h.output, hi _ h.sep⟩
theorem Sep.unstar : ∀ {Ls L : List HP} {S : Nat → Prop}, Sep (E.star Ls :: L) w S → Sep (Ls ++ L) w S
 | [], L, S, ⟨S1, S2, h1, h2, hd, hA, hL⟩ => hL.mono h2
 | B :: Ls, L, S, ⟨S1, S2, h1, h2, hd, ⟨T1, T2, g1, g2, gd, hB, hLs⟩, hL⟩ =>
  ⟨T1, fun k => T2 k ∨ S2 k, fun k q => h1 k (g1 k q), fun k q => q.elim (fun q => h1 k (g2 k q)) (fun q => h2 k q), fun k q q2 => q2.elim (gd k q) (fun q2 => hd k (g1 k q) q2), hB,
   Sep.unstar (Ls := Ls) ⟨T2, S2, fun _ => .inl, fun _ => .inr, fun k q q2 => hd k (g2 k q) q2, hLs, hL⟩⟩
theorem Sep.tl {B : HP} {L L' : List HP} {S : Nat → Prop} (h : Sep (B :: L) w S) (hi : ∀ S, Sep L w S → Sep L' w S) : Sep (B :: L') w S := by
 obtain ⟨S1, S2, h1, h2, hd, hB, hL⟩ := h
 exact ⟨S1, S2, h1, h2, hd, hB, hi _ hL⟩
end
end Go.Proofs.YteodeedejjcmgaaDoor.E
namespace Go.Proofs.YteodeedejjcmgaaDoor.E
open Go Go.RowKit Go.Lib
set_option linter.unusedVariables false
set_option linter.unusedSimpArgs false
section
variable {α : Type} {d : Kd α}
def LayO (d : Kd α) : List (Option α) → List Value → Prop
 | [], cs => cs = []
 | o :: os, cs => ∃ c1 c2, cs = c1 ++ c2 ∧ c1.length = d.sz ∧ (∀ x, o = some x → d.V x c1) ∧ LayO d os c2
theorem LayO.length : ∀ {os : List (Option α)} {cs : List Value}, LayO d os cs → cs.length = os.length * d.sz
 | [], _, h => by cases h; simp
 | o :: os, _, ⟨c1, c2, e, hl, hV, hL⟩ => by rw [e, List.length_append, hl, LayO.length hL, List.length_cons, Nat.add_mul]; omega
theorem LayO.of_lay : ∀ {xs : List α} {cs : List Value}, Lay d xs cs → LayO d (xs.map some) cs
 | [], _, h => h
 | x :: xs, _, ⟨c1, c2, e, hV, hL⟩ => ⟨c1, c2, e, d.len hV, fun y hy => by cases hy; exact hV, LayO.of_lay hL⟩
theorem LayO.append : ∀ {os ps : List (Option α)} {c1 c2 : List Value}, LayO d os c1 → LayO d ps c2 → LayO d (os ++ ps) (c1 ++ c2)
 | [], _, _, _, h, h2 => by cases h; exact h2
 | o :: os, ps, _, c2, ⟨q1, q2, e, hl, hV, hL⟩, h2 => ⟨q1, q2 ++ c2, by rw [e, List.append_assoc], hl, hV, LayO.append hL h2⟩
theorem LayO.take : ∀ {os : List (Option α)} {cs : List Value}, LayO d os cs → ∀ m, LayO d (os.take m) (cs.take (m * d.sz))
 | [], _, h, m => by cases h; simp [LayO]
 | o :: os, _, ⟨c1, c2, e, hl, hV, hL⟩, 0 => by simp [LayO]
 | o :: os, _, ⟨c1, c2, e, hl, hV, hL⟩, m + 1 => by
  subst e
  refine ⟨c1, _, ?_, hl, hV, LayO.take hL m⟩
  rw [show (m + 1) * d.sz = c1.length + m * d.sz by rw [hl, Nat.add_mul]; omega, List.take_append, List.take_of_length_le (by omega), Nat.add_sub_cancel_left]
theorem LayO.drop : ∀ {os : List (Option α)} {cs : List Value}, LayO d os cs → ∀ m, LayO d (os.drop m) (cs.drop (m * d.sz))
 | [], _, h, m => by cases h; simp [LayO]
 | o :: os, cs, h, 0 => by simpa using h
 | o :: os, _, ⟨c1, c2, e, hl, hV, hL⟩, m + 1 => by
  subst e
  show LayO d (os.drop m) _
  rw [show (m + 1) * d.sz = c1.length + m * d.sz by rw [hl, Nat.add_mul]; omega, List.drop_append, List.drop_eq_nil_of_le (show c1.length ≤ c1.length + m * d.sz by omega), List.nil_append, Nat.add_sub_cancel_left]
  exact LayO.drop hL m
def row (d : Kd α) (e : TypeId) (g c : Nat) (os : List (Option α)) : HP where
 P w S := (S g ∧ os.length = c ∧ c ≤ maxLen) ∧ ∃ cur : Array Value, w.heap[g]? = some (.cells cur e (0, 0)) ∧ LayO d os cur.toList
 fr h hk := ⟨h.1, by obtain ⟨cur, h1, h2⟩ := h.2; exact ⟨cur, (hk _ h.1.1).trans h1, h2⟩⟩
 mono h hs := ⟨⟨hs _ h.1.1, h.1.2⟩, h.2⟩
end
section
variable {r w : World} {L : List HP} {α : Type} {d : Kd α} {e : TypeId} {A : Option Addr} {n c g : Nat} {xs : List α} {os : List (Option α)}
end
section
variable {P : Program} {r w : World} {L : List HP} {α : Type} {d : Kd α} {e t : TypeId} {n c g : Nat} {os : List (Option α)} {o : Oper} {a : Act} {K : Act → World → Prop} {Q : Exit → Act → World → Prop} {x y : Operand}
end
section
variable {P : Program} {ops : Array Oper} {Q : Exit → Act → World → Prop} {rest : List Oper} {o : Oper} {a : Act} {w w' : World} {K : Act → World → Prop} {r : World} {L : List HP} {α : Type} {d : Kd α} {e t' t2 : TypeId} {n : Nat} {D : List Deferred} {t : Nat} {v : Value} {F : List (Nat × Value)}
 {c g k : Nat} {os : List (Option α)} {x y lo_ hi_ mx_ : Operand} {A A2 : Option Addr} {n1 c1 n2 c2 : Nat} {xs ys : List α} {L' : List HP}
section
variable {lo sz : Nat} {l u mx : Int} {kl kh km : IntKind} {m : Nat} (hu : P.underlying t' = some (.slice e)) (hi' : (P.info? e).map (·.size) = some sz)
include hu hi'
theorem r_slice_lhm (ho : o.op = .slice t' x (some lo_) (some hi_) (some mx_)) (hx : a.eval x = .slice A m c) (hl : a.eval lo_ = .int kl l) (hh : a.eval hi_ = .int kh u) (hm : a.eval mx_ = .int km mx) (h : 0 ≤ l ∧ l ≤ u ∧ u ≤ mx ∧ mx ≤ (c : Int)) :
  RunV P o a w (.slice (if mx.toNat = l.toNat then A else A.map (·.add (l.toNat * sz))) (u.toNat - l.toNat) (mx.toNat - l.toNat)) := by
 obtain ⟨q, hq1, hq2⟩ := Option.map_eq_some_iff.1 hi'
 have ht : P.underlying t' = some (.slice (P.elem t')) := by rw [elem_of hu]; exact hu
 have h2 := run_slice_lhm (P := P) w t' A m c ht kl kh km l u mx h.1 h.2.1 h.2.2.1 h.2.2.2
 rw [elem_of hu] at h2
 have hs : (sizeOf e).run P w = .ok sz w := by simp [sizeOf, typeInfo, hq1, hq2]
 rw [hs] at h2
 unfold RunV execOp; rw [ho]
 simp only [hx, hl, hh, hm, Option.map_some, Sem.run_bind, run_sliceAt_slice w t' _ _ _ _ ht, h2]; rfl
end
end
end Go.Proofs.YteodeedejjcmgaaDoor.E
namespace Go.Proofs.YteodeedejjcmgaaDoor.E
open Go Go.RowKit
set_option linter.unusedVariables false
set_option linter.unusedSimpArgs false
section
variable {r w : World} {L : List HP} {α β : Type} {dp : Kd (α × Hd)} {d : Kd β} {e e' : TypeId} {g : α → List β} {A : Option Addr} {n c : Nat} {xs : List α} {ps : List (α × Hd)}
theorem Lay.put {p p' : α × Hd} (hV : ∀ cs, dp.V p cs → dp.V p' cs) : ∀ {ps : List (α × Hd)} {i : Nat} {cs : List Value}, Lay dp ps cs → ps[i]? = some p → Lay dp (ps.set i p') cs
 | [], i, cs, h, hp => by simp at hp
 | q :: ps, 0, cs, ⟨c1, c2, e, hV1, hL⟩, hp => by cases hp; exact ⟨c1, c2, e, hV _ hV1, hL⟩
 | q :: ps, i + 1, cs, ⟨c1, c2, e, hV1, hL⟩, hp => ⟨c1, c2, e, hV1, Lay.put hV hL (by simpa using hp)⟩
end
section
variable {P : Program} {ops : Array Oper} {Q : Exit → Act → World → Prop} {rest : List Oper} {o : Oper} {a : Act} {w : World} {n : Nat} {D : List Deferred} {t : Nat} {F : List (Nat × Value)} {t' : TypeId} {x lo_ hi_ : Operand} {s ys : List UInt8} {l u : Int} {kl kh : IntKind}
theorem z_alloc {T : TypeId} {r : World} {L : List HP} {K : Act → World → Prop} {cs : List Value} {z : Value} (hz : (P.info? T).bind (·.zero) = some z) (hA : FR n D a F) (hS : SH r L w) (kk : ∀ g w', SH r (blk g T cs :: L) w' → K (a.put o.dst (.pointer (some ⟨g, 0, none⟩))) w')
  (ho : o.op = .alloc T := by rfl) (hcs : z.cells = cs.toArray := by rfl) : o.wp P a w K Q := e_alloc hS ho hz hcs kk
theorem z_alloc' {T : TypeId} {r : World} {L : List HP} {K : Act → World → Prop} {cs : List Value} {z : Value} (hz : (P.info? T).bind (·.zero) = some z) (hA : FR n D a F) (hS : SH r L w) (kk : ∀ g w', SH r (blk g T cs :: L) w' → K (a.put o.dst (.pointer (some ⟨g, 0, none⟩))) w') (h_ : (o.op, z.cells) = (.alloc T, cs.toArray)) : o.wp P a w K Q := z_alloc (hz := hz) (hA := hA) (hS := hS) (kk := kk) (congrArg (·.1) h_) (congrArg (·.2) h_)
end
section
variable {P : Program} {ops : Array Oper} {Q : Exit → Act → World → Prop} {rest : List Oper} {o : Oper} {a : Act} {w : World} {K : Act → World → Prop} {r : World} {L L' : List HP} {t e : TypeId} {x : Operand} {A : Option Addr} {n c : Nat} {xs : List Int}
end
section
variable {P : Program} {ops : Array Oper} {Q : Exit → Act → World → Prop} {rest : List Oper} {o : Oper} {a : Act} {w : World} {K : Act → World → Prop} {r : World} {L L' : List HP} {t e T xt yt t' : TypeId} {x y : Operand} {A : Option Addr} {n c m : Nat} {xs : List Int} {s : List UInt8} {v : Value}
end
section
variable {Z : Nat → Prop} {wz : World} {L : List HP} {α : Type} {d : Kd α} {A : Option Addr} {n c : Nat} {xs ys : List α} {l u : Int}
theorem rv_e {P : Program} {o : Oper} {a : Act} {w : World} {v v' : Value} (h : v = v') (hr : RunV P o a w v') : RunV P o a w v := h ▸ hr
theorem imm_hc (h : Imm Z wz d A n c xs) (hx : cut_ xs 0 u = some ys) : ∃ A' n' c', Value.slice A' n' c' = .slice A u.toNat c ∧ Imm Z wz d A' n' c' ys := ⟨_, _, _, rfl, imm_h h hx⟩
theorem imm_lc (h : Imm Z wz d A n c xs) (hx : cut_ xs l (xs.length : Int) = some ys) : ∃ A' n' c', Value.slice A' n' c' = .slice (if c = l.toNat then A else A.map (·.add (l.toNat * d.sz))) (n - l.toNat) (c - l.toNat) ∧ Imm Z wz d A' n' c' ys := ⟨_, _, _, rfl, imm_l h hx⟩
theorem imm_lhc (h : Imm Z wz d A n c xs) (hx : cut_ xs l u = some ys) : ∃ A' n' c', Value.slice A' n' c' = .slice (if c = l.toNat then A else A.map (·.add (l.toNat * d.sz))) (u.toNat - l.toNat) (c - l.toNat) ∧ Imm Z wz d A' n' c' ys := ⟨_, _, _, rfl, imm_lh h hx⟩
theorem lv4 {P : Program} {a : Act} {w : World} {n : Nat} {F : List (Nat × Value)} {fn : Func} {R : Value → World → Prop} {t u q s : Nat} {v1 v2 v3 v4 : Value} (hr : fn.results = #[.tmp t, .tmp u, .tmp q, .tmp s]) (hA : FR n [] a F) (h1 : lk F t = some v1) (h2 : lk F u = some v2) (h3 : lk F q = some v3) (h4 : lk F s = some v4) (h : R (.tuple #[v1, v2, v3, v4]) w) : bodyPost P fn (fun e w' => ∃ v, e = .returned v ∧ R v w') .ret a w :=
 bodyPost_ret (v := .tuple #[v1, v2, v3, v4]) (by
  have e1 : a.tmps.getD t undef = v1 := hA.ev (x := .tmp t) h1
  have e2 : a.tmps.getD u undef = v2 := hA.ev (x := .tmp u) h2
  have e3 : a.tmps.getD q undef = v3 := hA.ev (x := .tmp q) h3
  have e4 : a.tmps.getD s undef = v4 := hA.ev (x := .tmp s) h4
  rw [← e1, ← e2, ← e3, ← e4]
  simp [results, hr]) hA.defers ⟨_, rfl, h⟩
end
section
variable {P : Program} {ops : Array Oper} {Q : Exit → Act → World → Prop} {rest : List Oper} {o : Oper} {a : Act} {w : World} {r : World} {L : List HP} {t e T t' : TypeId} {x y : Operand} {α : Type} {d : Kd α} {xs : List α} {k : IntKind} {i : Int}
theorem blk_own {g : Nat} {cells : List Value} {m : Nat} (hL : Lay d xs cells) (hm : xs.length = m) (hmx : Nat.ble m 65536 = true) (h : SH r (blk g T cells :: L) w) : SH r (own d T (some ⟨g, 0, none⟩) m m xs :: L) w := by
 have := Nat.le_of_ble_eq_true hmx
 have hl := hL.length
 refine h.imp fun S hS => own_new hS.2 hS.1 hm (by omega) (by simp only [maxLen]; omega) (by simp [hl, hm]) ?_
 rw [← hl]
 simpa using hL
theorem r_iaA {g m sz : Nat} (hu : P.underlying t = some (.array m e)) (hi : (P.info? e).map (·.size) = some sz) (ho : o.op = .indexAddr t x y) (hx : a.eval x = .pointer (some ⟨g, 0, none⟩)) (hy : a.eval y = .int k i)
  (h0 : 0 ≤ i) (h1 : i < (m : Int)) : RunV P o a w (.pointer (some (ea (some ⟨g, 0, none⟩) (i.toNat * sz)))) := by
 unfold RunV execOp; rw [ho]
 obtain ⟨q, hq1, hq2⟩ := Option.map_eq_some_iff.1 hi
 simp [hx, hy, Instr.indexAt, asIntOf, run_underlying hu, h0, h1, sizeOf, typeInfo, hq1, hq2, ea, Instr.sureAddr]
theorem y_iaA {D : List Deferred} {n : Nat} {F : List (Nat × Value)} {g m c sz : Nat} {z : α} (hu : P.underlying t = some (.array m e)) (hi : (P.info? e).map (·.size) = some sz) (hr : Rd d w (some ⟨g, 0, none⟩) xs ∧ xs.length = m ∧ m ≤ c ∧ c ≤ maxLen) (hz : at_ xs i = some z) (hA : FR n D a F)
  (ho : o.op = .indexAddr t x y := by rfl) (hx : ev F x = some (.pointer (some ⟨g, 0, none⟩)) := by rfl) (hy : ev F y = some (.int k i) := by rfl) : RunV P o a w (.pointer (some (ea (some ⟨g, 0, none⟩) (i.toNat * sz)))) :=
 have h := at_some hz
 r_iaA hu hi ho (hA.ev hx) (hA.ev hy) h.1 (by have := hr.2.1; omega)
theorem x_iaA {D : List Deferred} {n q : Nat} {F : List (Nat × Value)} {g m c sz : Nat} {z : α} (hu : P.underlying t = some (.array m e)) (hi : (P.info? e).map (·.size) = some sz) (hr : Rd d w (some ⟨g, 0, none⟩) xs ∧ xs.length = m ∧ m ≤ c ∧ c ≤ maxLen) (hz : at_ xs i = some z) (hA : FR n D a F)
  (kk : ∀ a', FR n D a' ((q, .pointer (some (ea (some ⟨g, 0, none⟩) (i.toNat * sz)))) :: F) → wpList P ops Q rest a' w)
  (ho : o.op = .indexAddr t x y := by rfl) (hx : ev F x = some (.pointer (some ⟨g, 0, none⟩)) := by rfl) (hy : ev F y = some (.int k i) := by rfl) (hd : o.dst = some q := by rfl) (hg : o.guard = none := by rfl) (ht : Nat.blt q n = true := by rfl) : wpList P ops Q (o :: rest) a w :=
 x_val hA (y_iaA hu hi hr hz hA ho hx hy) kk hd hg ht
theorem x_iaA' {D : List Deferred} {n q : Nat} {F : List (Nat × Value)} {g m c sz : Nat} {z : α} (hu : P.underlying t = some (.array m e)) (hi : (P.info? e).map (·.size) = some sz) (hr : Rd d w (some ⟨g, 0, none⟩) xs ∧ xs.length = m ∧ m ≤ c ∧ c ≤ maxLen) (hz : at_ xs i = some z) (hA : FR n D a F)
  (kk : ∀ a', FR n D a' ((q, .pointer (some (ea (some ⟨g, 0, none⟩) (i.toNat * sz)))) :: F) → wpList P ops Q rest a' w) (h_ : (o.op, ev F x, ev F y, o.dst, o.guard, Nat.blt q n) = (.indexAddr t x y, some (.pointer (some ⟨g, 0, none⟩)), some (.int k i), some q, none, true)) : wpList P ops Q (o :: rest) a w := x_iaA (hu := hu) (hi := hi) (hr := hr) (hz := hz) (hA := hA) (kk := kk) (congrArg (·.1) h_) (congrArg (·.2.1) h_) (congrArg (·.2.2.1) h_) (congrArg (·.2.2.2.1) h_) (congrArg (·.2.2.2.2.1) h_) (congrArg (·.2.2.2.2.2) h_)
end
end Go.Proofs.YteodeedejjcmgaaDoor.E
namespace Go.Proofs.YteodeedejjcmgaaDoor.E
open Go Go.RowKit Go.ChangeShapes Go.WideShapes Go.Deep
set_option linter.unusedVariables false
set_option linter.unusedSimpArgs false
def Wt {H : Type} (P : Program) (t : TypeId) (d : DataW H) : Prop := ∀ n ∈ d.weights P t, n ≤ reachBytes
def HeapZ (W : World) : Nat → Prop := fun k => k < W.heap.size
def Opens {α : Type} (P : Program) (W : World) (t : TypeId) (d : Kd α) (g : α → Prop) : Prop :=
 ∀ (H : Type) (enc : TypeId × Value → H) (held : Bool) (fuel : Nat) (cs : List Value) (x : DataW H × List MemPlace),
  DataW.trod enc P W 0 (fun _ => true) held fuel t cs = some x → Wt P t x.1 → ∃ a, d.V a cs ∧ g a
def gI (k : IntKind) (n : Int) : Prop := (Lit.int k n).wf = true
def gB (_ : Bool) : Prop := True
def gS (s : List UInt8) : Prop := s.length ≤ reachBytes
def gF (b : Nat) : Prop := (Lit.float .f64 b).wf = true
def gL {α : Type} (by_ : Nat) (g : α → Prop) (xs : List α) : Prop := xs.length * by_ ≤ reachBytes ∧ ∀ x ∈ xs, g x
section
variable {P : Program} {W : World} {t e : TypeId}
theorem opI {k : IntKind} (hu : P.underlying t = some (.int k)) : Opens P W t (kI k) (gI k) := by
 intro H enc held fuel cs x h _
 obtain ⟨n, hc, _, hw⟩ := DataW.trod_int hu h
 exact ⟨n, hc, hw⟩
theorem opS (hu : P.underlying t = some .string) : Opens P W t kS gS := by
 intro H enc held fuel cs x h hw
 obtain ⟨s, hc, hx, _⟩ := DataW.trod_string hu h
 refine ⟨s.data.toList, by rw [hc]; rfl, ?_⟩
 have := hw s.data.toList.length (by rw [hx]; simp [DataW.weights])
 exact this
theorem trod_float {H : Type} {enc : TypeId × Value → H} {base : Nat} {spare : Nat → Bool} {held : Bool} {fuel : Nat} {cs : List Value} {x : DataW H × List MemPlace} {k : FloatKind}
  (ht : P.underlying t = some (.float k)) (h : DataW.trod enc P W base spare held fuel t cs = some x) : ∃ b, cs = [.float k b] ∧ (Lit.float k b).wf = true := by
 cases fuel with
 | zero => simp [DataW.trod] at h
 | succ n =>
  unfold DataW.trod at h
  rw [ht] at h
  split at h <;> simp_all
theorem opF (hu : P.underlying t = some (.float .f64)) : Opens P W t kF gF := by
 intro H enc held fuel cs x h hw
 obtain ⟨b, hc, hwf⟩ := trod_float hu h
 exact ⟨b, hc, hwf⟩
theorem pick_list {α : Type} {Q : Nat → α → Prop} : ∀ (n : Nat), (∀ i, i < n → ∃ a, Q i a) → ∃ xs : List α, xs.length = n ∧ ∀ i x, xs[i]? = some x → Q i x
 | 0, _ => ⟨[], rfl, fun i x h => by simp at h⟩
 | n + 1, h => by
  obtain ⟨xs, hl, hx⟩ := pick_list n fun i hi => h i (by omega)
  obtain ⟨a, ha⟩ := h n (by omega)
  refine ⟨xs ++ [a], by simp [hl], fun i x hi => ?_⟩
  rw [List.getElem?_append] at hi
  split at hi
  ·exact hx i x hi
  ·rename_i hge
   have : i - xs.length = 0 := by
    have := (List.getElem?_eq_some_iff.1 hi).1
    simp at this
    omega
   rw [this] at hi
   simp at hi
   subst hi
   rw [show i = n by omega]
   exact ha
theorem opSl {α : Type} {d : Kd α} {g : α → Prop} {by_ : Nat} (hu : P.underlying t = some (.slice e)) (hc : P.cellsOf e = d.sz) (hz : 0 < d.sz) (hb : P.bytesOf e = by_) (he : Opens P W e d g) :
  Opens P W t (kM (HeapZ W) W d) (gL by_ g) := by
 intro H enc held fuel cs x h hw
 rcases open_slice hu h with ⟨rfl, rfl⟩ | ⟨a, len, cap, m, n, D, Pl, rfl, _, hl, hm, hmm, rfl, hi⟩
 ·exact ⟨[], ⟨none, 0, 0, rfl, Imm.nil⟩, by simp, fun x h => by simp at h⟩
 ·simp only [if_true] at hmm
  subst hmm
  have hwt : ∀ i, i < m → Wt P e (D i) := by
   intro i him q hq
   refine hw q ?_
   simp only [DataW.weights, hu, List.mem_cons, List.mem_append]
   have key : ∀ (l : List Nat), (∃ j ∈ l, q ∈ (D j).weights P e) → q ∈ DataW.weightsAll P e (l.map D) := by
    intro l
    induction l with
    | nil => rintro ⟨j, hj, _⟩; simp at hj
    | cons a l ih =>
     rintro ⟨j, hj, hq⟩
     simp only [List.map_cons, DataW.weightsAll, List.mem_append]
     rcases List.mem_cons.1 hj with rfl | hj
     ·exact .inl hq
     ·exact .inr (ih ⟨j, hj, hq⟩)
   rcases Nat.lt_or_ge i len with hil | hil
   ·exact .inr (.inl (key _ ⟨i, List.mem_range.2 hil, hq⟩))
   ·refine .inr (.inr ?_)
    have : (List.range (m - len)).map (fun j => D (len + j)) = ((List.range (m - len)).map (len + ·)).map D := by simp [Function.comp_def]
    rw [this]
    exact key _ ⟨i, List.mem_map.2 ⟨i - len, List.mem_range.2 (by omega), by omega⟩, hq⟩
  obtain ⟨xs, hxl, hx⟩ := pick_list (Q := fun i y => g y ∧ ∃ cs', d.V y cs' ∧ a.block < W.heap.size ∧ ∀ q u, cs'[q]? = some u → W.cell? (a.add (i * d.sz + q)) = some u) len (fun i hil => by
   obtain ⟨cs', hcell, ht⟩ := hi i (by omega)
   obtain ⟨y, hV, hg⟩ := he H enc held n cs' _ ht (hwt i (by omega))
   rw [hc] at hcell
   obtain ⟨_, hcl, hat⟩ := World.cells?_some hcell
   have hq : ∀ q u, cs'[q]? = some u → W.cell? (a.add (i * d.sz + q)) = some u := by
    intro q u hu
    have hql := (List.getElem?_eq_some_iff.1 hu).1
    rw [← Go.Proofs.YteodeedejjcmgaaDoor.E.add_add', hat q (by omega), hu]
   refine ⟨y, hg, cs', hV, ?_, hq⟩
   have h0 := hq 0 _ (List.getElem?_eq_getElem (by omega))
   have hb : ∀ k, (a.add k).block = a.block := fun k => add_block a k
   unfold World.cell? at h0
   rw [hb] at h0
   rcases hh : W.heap[a.block]? with _ | o
   ·rw [hh] at h0; cases h0
   ·exact (Array.getElem?_eq_some_iff.1 hh).1)
  refine ⟨xs, ⟨some a, len, m, rfl, hxl, by omega, hm, fun hpos => ⟨a, rfl, ?_, fun j y hy => ?_⟩⟩, ?_, fun y hy => ?_⟩
  ·obtain ⟨_, cs', _, hblk, _⟩ := hx 0 _ (List.getElem?_eq_getElem hpos)
   exact hblk
  ·obtain ⟨_, cs', hV, _, hq⟩ := hx j y hy
   exact ⟨cs', hV, hq⟩
  ·have := hw ((((List.range len).map D).length + ((List.range (m - len)).map fun j => D (len + j)).length) * P.bytesOf e) (by simp only [DataW.weights, hu]; exact List.mem_cons_self)
   rw [hb] at this
   simp only [List.length_map, List.length_range] at this
   rw [hxl]
   exact Nat.le_trans (Nat.mul_le_mul_right _ (by omega)) this
  ·obtain ⟨j, hj⟩ := List.getElem?_of_mem hy
   exact (hx j y hj).1
theorem fld {H : Type} {enc : TypeId × Value → H} {held : Bool} {fs : Array Field} {ys : List (DataW H × List MemPlace)} {n : Nat} {cs : List Value} (hu : P.underlying e = some (.struct fs))
  (hf : ∀ (i : Nat) (f : Field), fs[i]? = some f → DataW.trod enc P W 0 (fun _ => true) held n f.type ((cs.drop f.offset).take (P.cellsOf f.type)) = ys[i]?) (hyl : ys.length = fs.size)
  (hw : Wt P e (.agg (ys.map (·.1)))) (i : Nat) {f : Field} (hi : fs[i]? = some f) {o c : Nat} (ht : f.type = t) (ho : f.offset = o) (hc : P.cellsOf t = c) {α : Type} {d : Kd α} {g : α → Prop} (hO : Opens P W t d g) :
  ∃ a, d.V a ((cs.drop o).take c) ∧ g a := by
 have hlt := (Array.getElem?_eq_some_iff.1 hi).1
 have h := hf i f hi
 subst ht ho hc
 rw [List.getElem?_eq_getElem (by omega)] at h
 refine hO H enc held n _ _ h fun q hq => hw q ?_
 simp only [DataW.weights, hu]
 refine DataW.weights_mem_each (j := i) (t := f.type) (d := (ys[i]'(by omega)).1) ?_ ?_ q hq
 ·rw [List.getElem?_map, Array.getElem?_toList, hi]; rfl
 ·rw [List.getElem?_map, List.getElem?_eq_getElem (by omega)]; rfl
theorem Opens.arg {H : Type} {enc : TypeId × Value → H} {held : Bool} {v : Value} {x : DataW H} {p : List MemPlace} {α : Type} {d : Kd α} {g : α → Prop} (hO : Opens P W t d g)
  (h : DataW.Trod enc P W 0 (fun _ => true) held t v x p) (hw : Wt P t x) : ∃ a, d.V a v.cells.toList ∧ g a := by
 obtain ⟨fuel, h⟩ := h
 exact hO H enc held fuel _ _ h hw
theorem SH.start (W : World) : SH W [zone (HeapZ W) W] W :=
 ⟨rfl, rfl, rfl, fun k => k < W.heap.size, fun _ => False, fun _ h => h, fun _ h => h.elim, fun _ _ h => h, ⟨fun _ h => h, fun _ _ => rfl⟩, trivial⟩
theorem SH.below {W w' : World} {Z : Nat → Prop} {wz : World} {L : List HP} (h : SH W (zone Z wz :: L) w') (hs : Sub (HeapZ W) W Z wz) : Below W.heap.size W w' := by
 obtain ⟨S1, S2, h1, h2, hd, hA, hL⟩ := h.sep
 refine ⟨h.os, h.tape, h.output, ?_, fun k hk => (hA.2 k (hs k hk).1).trans (hs k hk).2⟩
 rcases Nat.eq_zero_or_pos W.heap.size with h0 | h0
 ·omega
 ·have := h1 _ (hA.1 _ (hs (W.heap.size - 1) (show W.heap.size - 1 < W.heap.size by omega)).1)
  omega
theorem Wt.of {H : Type} {ts : List TypeId} {ds : List (DataW H)} (h : (DataW.weightsEach P ts ds).all (· ≤ reachBytes) = true) {j : Nat} {d : DataW H} (ht : ts[j]? = some t) (hd : ds[j]? = some d) : Wt P t d := by
 intro n hn
 have := List.all_eq_true.1 h _ (DataW.weights_mem_each ht hd n hn)
 simpa using this
end
end Go.Proofs.YteodeedejjcmgaaDoor.E
namespace Go.Proofs.YteodeedejjcmgaaDoor.E
open Go Go.RowKit
theorem tab_imm {P : Program} {W : World} {nm : String} {g t e n : Nat} {k : IntKind} {xs : List Int} (hg : P.globalNamed nm = some g) (ht : (P.globals[g]?).map (·.type) = some t)
  (hu : P.underlying t = some (.array n e)) (he : P.underlying e = some (.int k)) (hce : P.cellsOf e = 1) (hn : xs.length = n) (hm : n ≤ maxLen)
  (h : laidMet P [(nm, .agg (xs.map fun x => .lit (.int k x)))] W) : Imm (HeapZ W) W (kI k) (some ⟨g, 0, none⟩) n n xs := by
 obtain ⟨ps, ⟨g0, t0, cs, f0, p, q, hg0, ht0, hv, hd, _, _⟩, _, _⟩ := h
 obtain rfl := Option.some.inj (hg.symm.trans hg0)
 obtain rfl := Option.some.inj (ht.symm.trans ht0)
 obtain ⟨ys, m, rfl, hx, hl, hyn, hel⟩ := DataW.trod_array hu hd
 have hb : g < W.heap.size := by
  simp only [World.var?, hg, Option.bind_some] at hv
  split at hv
  ·rename_i hq; exact (Array.getElem?_eq_some_iff.1 hq).1
  ·cases hv
 have hx1 : xs.map (fun x => (DataW.lit (.int k x) : DataW Unit)) = ys.map (·.1) := by
  simp only [Prod.mk.injEq, DataW.agg.injEq] at hx; exact hx.1
 refine ⟨hn, by omega, hm, fun _ => ⟨_, rfl, hb, fun j x hj => ⟨[.int k x], rfl, fun q u hq => ?_⟩⟩⟩
 have hjn : j < n := by have := (List.getElem?_eq_some_iff.1 hj).1; omega
 have h1 := hel j hjn
 rw [hce] at h1
 have h2 : (ys.map (·.1))[j]? = some (.lit (.int k x)) := by rw [← hx1, List.getElem?_map, hj]; rfl
 rw [List.getElem?_map] at h2
 cases hy : ys[j]? with
 | none => rw [hy] at h2; cases h2
 | some y =>
  rw [hy] at h2 h1
  obtain ⟨z, e1, e2, _⟩ := DataW.trod_int he h1
  have hz : z = x := by rw [e2] at h2; simpa using h2
  subst hz
  match q, hq with
  | 0, hq =>
   have hu0 : Value.int k z = u := by simpa using hq
   subst hu0
   have hc := World.var?_cell hg hv j
   have h3 : (cs.toList.drop (j * 1))[0]? = some (.int k z) := by
    have h4 : ((cs.toList.drop (j * 1)).take 1)[0]? = some (.int k z) := by rw [e1]; rfl
    rw [List.getElem?_take_of_lt (by omega)] at h4; exact h4
   rw [List.getElem?_drop] at h3
   have h5 : cs[j]? = some (.int k z) := by
    rw [← Array.getElem?_toList]; rw [show j * 1 + 0 = j by omega] at h3; exact h3
   have h6 : (({ block := g, off := 0 } : Addr).add (j * (kI k).sz + 0)) = ⟨g, j, none⟩ := by
    show Addr.add ⟨g, 0, none⟩ (j * 1 + 0) = ⟨g, j, none⟩
    unfold Addr.add
    split
    ·rename_i hz; rw [show j = 0 by omega]
    ·simp
   rw [h6, hc, h5]
  | q + 1, hq => simp at hq
set_option linter.unusedVariables false
theorem lay_kS : ∀ xs : List (List UInt8), Lay kS xs (xs.map encStr)
 | [] => rfl
 | x :: xs => ⟨[str x], _, rfl, rfl, lay_kS xs⟩
theorem lay_kS_eq : ∀ {xs : List (List UInt8)} {cs : List Value}, Lay kS xs cs → cs = xs.map encStr
 | [], cs, h => h
 | x :: xs, cs, ⟨c1, c2, e, h1, h2⟩ => by
  have h1' : c1 = [str x] := h1
  rw [e, h1', lay_kS_eq h2]; rfl
theorem compact_len {α : Type} [Inhabited α] [DecidableEq α] (xs : List α) : (Lib.compact xs).length ≤ xs.length := by
 unfold Lib.compact Lib.compactUpTo
 rw [List.length_map]
 exact Nat.le_trans (List.length_filter_le _ _) (by simp)
theorem SH.newrow {α : Type} {r w w' : World} {L : List HP} {d : Kd α} {e : TypeId} {v : Value} {xs : List α} {inner : List Value} (h : SH r L w) (hb : Below w.heap.size w w')
  (hr : w'.ownsRow w.heap.size e d.sz v xs.length inner) (hL : Lay d xs inner) : ∃ (A : Option Addr) (n c : Nat), v = .slice A n c ∧ SH r (own d e A n c xs :: L) w' := by
 have hr0 := ownsRow_base_a hr (Nat.zero_le _)
 have key : ∃ A c, v = .slice A xs.length c ∧ ∀ k, v.ownBlock = some k → w.heap.size ≤ k ∧ k < w'.heap.size := by
  rcases hr.2 with ⟨rfl, hz⟩ | ⟨g, cap, cur, rfl, hg, hh, _⟩
  ·exact ⟨none, 0, by rw [hz], fun k hk => by simp [Value.ownBlock] at hk⟩
  ·exact ⟨_, _, rfl, fun k hk => by
    have : g = k := by simpa [Value.ownBlock] using hk
    subst this
    exact ⟨hg, (Array.getElem?_eq_some_iff.1 hh).1⟩⟩
 obtain ⟨A, c, rfl, hk⟩ := key
 refine ⟨A, xs.length, c, rfl, hb.os.trans h.os, hb.tape.trans h.tape, hb.output.trans h.output, fun k => w.heap.size ≤ k ∧ k < w'.heap.size, fun k => k < w.heap.size, fun k hk => hk.2, fun k hk => by have := hb.size; omega, fun k h1 h2 => by omega, ⟨rfl, ⟨inner, hL, hr0⟩, hk⟩, h.sep.fr fun k hk => hb.block k hk⟩
end Go.Proofs.YteodeedejjcmgaaDoor.E
namespace Go.Proofs.YteodeedejjcmgaaDoor.M
open Go Go.RowKit Go.Proofs.YteodeedejjcmgaaDoor.E
set_option linter.unusedVariables false
set_option linter.unusedSimpArgs false
structure S106 where
  f0 : (List Int)
structure S44 where
  f0 : Int
  f1 : Int
  f2 : Int
  f3 : (List UInt8)
  f4 : Nat
structure S33 where
  f0 : Int
  f1 : Int
  f2 : Int
  f3 : Int
structure S41 where
  f0 : Int
  f1 : Int
  f2 : Int
  f3 : Int
  f4 : Int
  f5 : Int
  f6 : (List UInt8)
  f7 : (List UInt8)
structure S83 where
  f0 : (List Int)
  f1 : Int
  f2 : (List S41)
def gl_page_table : List Int := [0, 498536548, 997073096, 651767980, 1994146192, 1802195444, 1303535960, 1342533948, 3988292384, 4027552580, 3604390888, 3412177804, 2607071920, 2262029012, 2685067896, 3183342108]
def eq41 (x y : S41) : Bool := (x.f0 == y.f0 && (x.f1 == y.f1 && (x.f2 == y.f2 && (x.f3 == y.f3 && (x.f4 == y.f4 && (x.f5 == y.f5 && (x.f6 == y.f6 && (x.f7 == y.f7 && true))))))))
def k44 : Kd S44 where
  sz := 5
  V x cs := cs = [.int .u64 x.f0, .int .i64 x.f1, .int .i64 x.f2, str x.f3, .float .f64 x.f4]
  len h := by rw [h]; rfl
  one h := by rw [h]; simp [Value.oneCell', str]
def k41 : Kd S41 where
  sz := 8
  V x cs := cs = [.int .i64 x.f0, .int .i64 x.f1, .int .u64 x.f2, .int .u64 x.f3, .int .i64 x.f4, .int .i64 x.f5, str x.f6, str x.f7]
  len h := by rw [h]; rfl
  one h := by rw [h]; simp [Value.oneCell', str]
def obj106 (Z : Nat → Prop) (wz : World) (g : Nat) (x : S106) : HP := ex fun i : Option Addr × Nat × Nat => star [blk g 106 [.slice i.1 i.2.1 i.2.2], pure' (Imm Z wz (kI .u8) i.1 i.2.1 i.2.2 x.f0)]
theorem obj106_open {r w : World} {L : List HP} {Z : Nat → Prop} {wz : World} {g : Nat} {x : S106} (h : SH r (obj106 Z wz g x :: L) w) : ∃ A0_ n0_ c0_, SH r (blk g 106 [.slice A0_ n0_ c0_] :: pure' (Imm Z wz (kI .u8) A0_ n0_ c0_ x.f0) :: L) w := by
  obtain ⟨i, h⟩ := h.unex
  exact ⟨i.1, i.2.1, i.2.2, h.unstar⟩
theorem obj106_mk {r w : World} {L : List HP} {Z : Nat → Prop} {wz : World} {g : Nat} {x : S106} {A0_ : Option Addr} {n0_ : Nat} {c0_ : Nat} (h : SH r (blk g 106 [.slice A0_ n0_ c0_] :: pure' (Imm Z wz (kI .u8) A0_ n0_ c0_ x.f0) :: L) w) : SH r (obj106 Z wz g x :: L) w := SH.ex (A0_, n0_, c0_) (SH.star (Ls := [blk g 106 [.slice A0_ n0_ c0_], pure' (Imm Z wz (kI .u8) A0_ n0_ c0_ x.f0)]) h)
def obj90 (g : Nat) (x : (List Int)) : HP := ex fun i : Option Addr × Nat × Nat => star [blk g 90 [.slice i.1 i.2.1 i.2.2], own (kI .i64) 2 i.1 i.2.1 i.2.2 x]
theorem obj90_open {r w : World} {L : List HP} {g : Nat} {x : (List Int)} (h : SH r (obj90 g x :: L) w) : ∃ A0_ n0_ c0_, SH r (blk g 90 [.slice A0_ n0_ c0_] :: own (kI .i64) 2 A0_ n0_ c0_ x :: L) w := by
  obtain ⟨i, h⟩ := h.unex
  exact ⟨i.1, i.2.1, i.2.2, h.unstar⟩
theorem obj90_mk {r w : World} {L : List HP} {g : Nat} {x : (List Int)} {A0_ : Option Addr} {n0_ : Nat} {c0_ : Nat} (h : SH r (blk g 90 [.slice A0_ n0_ c0_] :: own (kI .i64) 2 A0_ n0_ c0_ x :: L) w) : SH r (obj90 g x :: L) w := SH.ex (A0_, n0_, c0_) (SH.star (Ls := [blk g 90 [.slice A0_ n0_ c0_], own (kI .i64) 2 A0_ n0_ c0_ x]) h)
def obj91 (g : Nat) (x : (List (List UInt8))) : HP := ex fun i : Option Addr × Nat × Nat => star [blk g 91 [.slice i.1 i.2.1 i.2.2], own kS 9 i.1 i.2.1 i.2.2 x]
theorem obj91_open {r w : World} {L : List HP} {g : Nat} {x : (List (List UInt8))} (h : SH r (obj91 g x :: L) w) : ∃ A0_ n0_ c0_, SH r (blk g 91 [.slice A0_ n0_ c0_] :: own kS 9 A0_ n0_ c0_ x :: L) w := by
  obtain ⟨i, h⟩ := h.unex
  exact ⟨i.1, i.2.1, i.2.2, h.unstar⟩
theorem obj91_mk {r w : World} {L : List HP} {g : Nat} {x : (List (List UInt8))} {A0_ : Option Addr} {n0_ : Nat} {c0_ : Nat} (h : SH r (blk g 91 [.slice A0_ n0_ c0_] :: own kS 9 A0_ n0_ c0_ x :: L) w) : SH r (obj91 g x :: L) w := SH.ex (A0_, n0_, c0_) (SH.star (Ls := [blk g 91 [.slice A0_ n0_ c0_], own kS 9 A0_ n0_ c0_ x]) h)
def obj83 (Z : Nat → Prop) (wz : World) (g : Nat) (x : S83) : HP := ex fun i : Option Addr × Nat × Nat × Option Addr × Nat × Nat => star [blk g 83 [.slice i.1 i.2.1 i.2.2.1, .int .i64 x.f1, .slice i.2.2.2.1 i.2.2.2.2.1 i.2.2.2.2.2], own k41 41 i.2.2.2.1 i.2.2.2.2.1 i.2.2.2.2.2 x.f2, pure' (Imm Z wz (kI .u8) i.1 i.2.1 i.2.2.1 x.f0)]
theorem obj83_open {r w : World} {L : List HP} {Z : Nat → Prop} {wz : World} {g : Nat} {x : S83} (h : SH r (obj83 Z wz g x :: L) w) : ∃ A0_ n0_ c0_ A2_ n2_ c2_, SH r (blk g 83 [.slice A0_ n0_ c0_, .int .i64 x.f1, .slice A2_ n2_ c2_] :: own k41 41 A2_ n2_ c2_ x.f2 :: pure' (Imm Z wz (kI .u8) A0_ n0_ c0_ x.f0) :: L) w := by
  obtain ⟨i, h⟩ := h.unex
  exact ⟨i.1, i.2.1, i.2.2.1, i.2.2.2.1, i.2.2.2.2.1, i.2.2.2.2.2, h.unstar⟩
theorem obj83_mk {r w : World} {L : List HP} {Z : Nat → Prop} {wz : World} {g : Nat} {x : S83} {A0_ : Option Addr} {n0_ : Nat} {c0_ : Nat} {A2_ : Option Addr} {n2_ : Nat} {c2_ : Nat} (h : SH r (blk g 83 [.slice A0_ n0_ c0_, .int .i64 x.f1, .slice A2_ n2_ c2_] :: own k41 41 A2_ n2_ c2_ x.f2 :: pure' (Imm Z wz (kI .u8) A0_ n0_ c0_ x.f0) :: L) w) : SH r (obj83 Z wz g x :: L) w := SH.ex (A0_, n0_, c0_, A2_, n2_, c2_) (SH.star (Ls := [blk g 83 [.slice A0_ n0_ c0_, .int .i64 x.f1, .slice A2_ n2_ c2_], own k41 41 A2_ n2_ c2_ x.f2, pure' (Imm Z wz (kI .u8) A0_ n0_ c0_ x.f0)]) h)
end Go.Proofs.YteodeedejjcmgaaDoor.M
namespace Go.Proofs.YteodeedejjcmgaaDoor.E
open Go Go.RowKit
set_option linter.unusedVariables false
set_option linter.unusedSimpArgs false
section
variable {P : Program} {ops : Array Oper} {Q : Exit → Act → World → Prop} {o : Oper} {a : Act} {w : World} {K K' : Act → World → Prop} {lp m : Nat}
def Oper.nodefer (o : Oper) : Bool := match o.op with
 | .defer _ => false
 | _ => true
theorem nodefer_ne {o : Oper} (h : Oper.nodefer o = true) : ∀ c, o.op ≠ .defer c := by
 intro c e
 unfold Oper.nodefer at h
 rw [e] at h
 cases h
theorem rowsIn_round {row : String} {args : Array Value} {R : Value → World → Prop} (h : Rows P row args w R) : RowsIn (Fence.wide.inRound lp) m P row args w R :=
 fun c cs _ => let ⟨v, w', r, s⟩ := h c cs; ⟨v, w', r, stepsIn_wide.2 s⟩
theorem opIn (h : o.wp P a w K Q) (hd : Oper.nodefer o = true) (hQ : ¬ LetsOut Q) (hK : ∀ a w, K a w → K' a w) : o.wpIn (Fence.wide.inRound lp) m P a w K' Q := by
 refine ⟨fun f _ => trivial, ?_⟩
 show o.uponIn _ m P a K' Q ((o.semAt (some lp) a.eval).run P w)
 rw [Oper.semAt_some lp _ _ (nodefer_ne hd)]
 unfold Oper.wp at h
 revert h
 generalize (execOp a.eval o).run P w = res
 intro h
 cases res with
 | ok nx w' =>
  cases nx with
  | value v => exact hK _ _ h
  | skip => exact hK _ _ h
  | defer d => exact hK _ _ h
  | enter f args =>
   refine ⟨fun e => (by cases e), CallsIn.inRound lp (callsIn_wide.2 (Calls.mono h ?_))⟩
   intro e w'' he
   cases e with
   | returned v => exact hK _ _ he
   | panicked ch => exact he
   | outgrown => exact he
  | row row args => exact ⟨fun e => (by cases e), RowsIn.mono (rowsIn_round h) fun v w'' => hK _ _⟩
  | _ => exact h.elim
 | halt hh w' =>
  cases hh with
  | panic v => exact h
  | _ => exact h.elim
theorem listIn (hQ : ¬ LetsOut Q) : ∀ {l : List Oper} {a : Act} {w : World}, wpList P ops Q l a w → l.all Oper.nodefer = true → wpListIn (Fence.wide.inRound lp) m P ops Q l a w
 | [], _, _, h, _ => h
 | o :: l, a, w, h, hd => by
  simp only [List.all_cons, Bool.and_eq_true] at hd
  unfold wpList at h
  unfold wpListIn
  split
  ·rename_i hw
   rw [if_pos hw] at h
   rcases h with h | ⟨_, h⟩
   ·exact opIn h hd.1 hQ fun a w h => listIn hQ h hd.2
   ·exact (hQ h).elim
  ·rename_i hw
   rw [if_neg hw] at h
   exact ⟨fun f _ => trivial, listIn hQ h hd.2⟩
theorem in_reg {id : Nat} (hQ : ¬ LetsOut Q) (hd : ops.toList.all Oper.nodefer = true) (h : wpList P ops Q ops.toList a w) : (Code.region id ops false).wpIn (Fence.wide.inRound lp) m P Q a w :=
 wpIn_region_list (listIn hQ h hd)
theorem anyIn (hQ : ¬ LetsOut Q) (hd : ops.toList.all Oper.nodefer = true) : ∀ {k : Nat} {listed : Array Bool} {a : Act} {w : World}, wpAny P .any ops Q k listed a w → wpAnyIn (Fence.wide.inRound lp) m P .any ops Q k listed a w
 | 0, _, _, _, h => h
 | k + 1, listed, a, w, h => by
  refine ⟨h.1, fun i hi => ?_⟩
  have h2 := h.2 i hi
  unfold wpOp at h2
  unfold wpOpIn
  cases ho : ops[i]? with
  | none =>
   simp only [ho] at h2 ⊢
   exact anyIn hQ hd h2
  | some o =>
   simp only [ho] at h2 ⊢
   have hdo : Oper.nodefer o = true := List.all_eq_true.1 hd o (by obtain ⟨hl, e⟩ := Array.getElem?_eq_some_iff.1 ho; rw [← e]; simp)
   split
   ·rename_i hw
    rw [if_pos hw] at h2
    rcases h2 with h2 | ⟨_, h2⟩
    ·exact opIn h2 hdo hQ fun a w h => anyIn hQ hd h
    ·exact (hQ h2).elim
   ·rename_i hw
    rw [if_neg hw] at h2
    exact ⟨fun f _ => trivial, anyIn hQ hd h2⟩
theorem in_draw {id n : Nat} {D : List Deferred} {F : List (Nat × Value)} {r : World} {L : List HP} (M effs : List Nat) (hm : P.follows .mixedOrders = true) (hA : FR n D a F) (hS : SH r L w)
  (hM : okM ops M = true) (hu : uniq ops = true) (hEs : effs.all (fun e => Nat.blt e ops.size) = true) (ht : ((List.range ops.size).all fun p => match (ops[p]?).bind (fun o : Oper => o.dst) with | none => true | some t => Nat.blt t n) = true)
  (hd : ops.toList.all Oper.nodefer = true) (hQ : ¬ LetsOut Q)
  (h : ∀ w', SH r L w' → ∃ VL, DrawOk P ops Q n D M F effs effs.length [] VL w') : (Code.region id ops true).wpIn (Fence.wide.inRound lp) m P Q a w :=
 wpIn_region_any hm (anyIn hQ hd (draw_w M effs hA hS hM hu hEs ht h))
end
section
variable {P : Program} {ops : Array Oper} {Q : Exit → Act → World → Prop} {o : Oper} {rest : List Oper} {a : Act} {w : World} {lp m n t : Nat} {D : List Deferred} {F : List (Nat × Value)} {v : Value}
theorem xi_val (hA : FR n D a F) (h : RunV P o a w v) (kk : ∀ a', FR n D a' ((t, v) :: F) → wpListIn Fence.wide m P ops Q rest a' w) (hnd : Oper.nodefer o = true) (hd : o.dst = some t) (hg : o.guard = none) (ht : Nat.blt t n = true) : wpListIn Fence.wide m P ops Q (o :: rest) a w := by
 refine wpListIn_plain hg fun K hK => ⟨fun f _ => trivial, ?_⟩
 rw [Oper.semAt_plain Fence.wide _ _ (nodefer_ne hnd), show (execOp a.eval o).run P w = _ from h]
 exact hK _ _ (kk _ (by rw [hd]; exact hA.put t v (by have := Nat.le_of_ble_eq_true ht; omega)))
theorem xi_yield {x y : Operand} {ts : Array TypeId} {l : Nat} {R : Ending → World → Prop} (hA : FR n D a F) (hY : YieldAt Fence.wide (m - 1) P l #[v] w R) (hR : ∀ e w', R e w' → e = .returned (.bool true) ∧ R (.returned (.bool true)) w')
  (kk : ∀ a' w', R (.returned (.bool true)) w' → FR n D a' ((t, .bool true) :: F) → wpListIn Fence.wide m P ops Q rest a' w')
  (ho : o.op = .call { callee := .value x, args := #[y], argTypes := ts }) (hx : ev F x = some (.func (.yield l) #[] #[])) (hy : ev F y = some v) (hd : o.dst = some t) (hg : o.guard = none) (ht : Nat.blt t n = true) : wpListIn Fence.wide m P ops Q (o :: rest) a w := by
 obtain ⟨fn, tmps, assign, body, hy', hRd⟩ := hY
 refine wpListIn_plain hg fun K hK => ⟨fun f _ => trivial, ?_⟩
 have hnd : ∀ c, o.op ≠ .defer c := fun c e => by rw [ho] at e; cases e
 have hrun : (execOp a.eval o).run P w = .ok (.round l fn tmps assign body) w := by
  unfold execOp
  rw [ho]
  simp only [resolve, hA.ev hx, Deferred.ofValue, Sem.run_bind, Sem.run_pure, Result.andThen_ok, invoke]
  have e2 : #[] ++ #[y].map a.eval = #[v] := by simp [hA.ev hy]
  simpa [hA.ev hy] using hy'
 rw [Oper.semAt_plain Fence.wide _ _ hnd, hrun]
 refine ⟨fun e => (by cases e), hRd.mono ?_⟩
 intro e w' he
 obtain ⟨rfl, he'⟩ := hR e w' he
 exact hK _ _ (kk _ _ he' (by rw [hd]; exact hA.put t _ (by have := Nat.le_of_ble_eq_true ht; omega)))
end
section
variable {P : Program} {o : Oper} {a : Act} {w : World} {x y : Operand} {s u : List UInt8}
theorem r_minS {ts : Array TypeId} (ho : o.op = .call { callee := .builtin .min, args := #[x, y], argTypes := ts }) (hx : a.eval x = str s) (hy : a.eval y = str u) : RunV P o a w (str (if (Op.bytesLess s u || s == u) = true then s else u)) :=
 r_builtin ho (by
  have e : #[x, y].map a.eval = #[str s, str u] := by simp [hx, hy]
  rw [e]
  show (do pure (.value (← Builtin.min_ ts o.type #[str s, str u])) : Sem Next).run P w = _
  rw [Sem.run_bind]
  simp only [Builtin.min_, str]
  cases h : (Op.bytesLess s u || s == u) <;> (have h' := h; simp only [Bool.or_eq_true, Bool.or_eq_false_iff] at h'; simp [Builtin.min2, Op.stringOp, asBool, h, h', ba_toList]))
theorem r_maxS {ts : Array TypeId} (ho : o.op = .call { callee := .builtin .max, args := #[x, y], argTypes := ts }) (hx : a.eval x = str s) (hy : a.eval y = str u) : RunV P o a w (str (if Op.bytesLess s u = true then u else s)) :=
 r_builtin ho (by
  have e : #[x, y].map a.eval = #[str s, str u] := by simp [hx, hy]
  rw [e]
  show (do pure (.value (← Builtin.max_ ts o.type #[str s, str u])) : Sem Next).run P w = _
  rw [Sem.run_bind]
  simp only [Builtin.max_, str]
  cases h : Op.bytesLess s u <;> simp [Builtin.max2, Op.stringOp, asBool, h, ba_toList])
end
theorem eqf {P : Program} {w : World} {d : Nat} {xs ys : Array Value} {f : Field} {fs : List Field} {a b : Value} {r s : Bool} (ha : ∀ w, (part f.type xs f.offset).run P w = .ok a w) (hb : ∀ w, (part f.type ys f.offset).run P w = .ok b w)
  (hr : (Op.equalIn d f.type a b).run P w = .ok r w) (hs : (Op.eqFields d xs ys fs).run P w = .ok s w) (hn : (f.name == "_") = false) : (Op.eqFields d xs ys (f :: fs)).run P w = .ok (r && s) w := by
 have hn' : f.name ≠ "_" := by simpa using hn
 simp only [Op.eqFields, hn', ne_eq, not_false_eq_true, if_true, Sem.run_bind, ha, hb, hr, Result.andThen_ok]
 cases r
 ·simp
 ·simpa using hs
theorem eqn {P : Program} {w : World} {d : Nat} {xs ys : Array Value} : (Op.eqFields d xs ys []).run P w = .ok true w := by simp [Op.eqFields]
theorem part_flat {P : Program} {t : TypeId} {cs : Array Value} {off : Nat} {v : Value} {dd : TypeDesc} (hu : P.underlying t = some dd) (hf : flat dd = true) (hc : cs[off]? = some v) (w : World) : (part t cs off).run P w = .ok v w := by
 simp [part, run_isAgg_flat hu, hf, hc]
theorem eq_str {P : Program} {w : World} {d : Nat} {t : TypeId} {s u : List UInt8} (h : P.underlying t = some .string) : (Op.equalIn (d + 1) t (str s) (str u)).run P w = .ok (s == u) w := by
 simp [str, Op.equalIn, run_underlying h, beq_toListBytes, ba_toList]
theorem eqs {P : Program} {w : World} {d : Nat} {t : TypeId} {xs ys : Array Value} {fs : Array Field} {b : Bool} (hu : P.underlying t = some (.struct fs)) (hp : P.stoodInHeld t = false) (h : (Op.eqFields d xs ys fs.toList).run P w = .ok b w) : (Op.equalIn (d + 1) t (.agg xs) (.agg ys)).run P w = .ok b w := by
 have e : P.fieldsOf t = fs := by simp [Program.fieldsOf, hu]
 rw [run_equalIn_struct w d t xs ys (by rw [e]; exact hu) hp, e]
 exact h
theorem r_neA {P : Program} {o : Oper} {a : Act} {w : World} {x y : Operand} {xt yt : TypeId} {xs ys : Array Value} {b : Bool} (hgt : P.eqGuardType P.depth xt = false) (h : ∀ w, (Op.equalIn 10000 xt (.agg xs) (.agg ys)).run P w = .ok b w) (ho : o.op = .binOp .neq xt x y yt) (hx : a.eval x = .agg xs) (hy : a.eval y = .agg ys) : RunV P o a w (.bool (!b)) :=
 r_bin ho hx hy fun w => by simp [run_eqGuard_agg _ _ _ _ _ _ _ hgt, run_neq_struct, h]
section
variable {P : Program} {Q : Exit → Act → World → Prop} {a : Act} {w : World} {lp m : Nat}
theorem in_block_k {id : Nat} {cd : Code} (h : ∀ Kx : Act → World → Prop, (∀ a w, Q .normal a w → Kx a w) → cd.wpIn (Fence.wide.inRound lp) m P (Exit.blk id Kx Q) a w) : (Code.block id cd).wpIn (Fence.wide.inRound lp) m P Q a w := by
 refine wpIn_block (Code.wpIn_mono (fun e a w q => ?_) (h (Q .normal) fun _ _ h => h))
 cases e with
 | exit id' =>
  simp only [Exit.blk, Exit.inBlock] at q ⊢
  by_cases h : id' = id
  ·subst h
   simpa using q
  ·have : Nat.beq id' id = false := by
    cases hb : Nat.beq id' id
    ·rfl
    ·exact absurd (Nat.eq_of_beq_eq_true hb) h
   rw [this] at q
   rw [if_neg h]
   exact q
 | _ => exact q
end
def pcs {α : Type} (q : Nat) (xs : List α) : List (List α) := (List.range ((xs.length + q - 1) / q)).map fun k => (xs.drop (k * q)).take q
def pcv (A : Option Addr) (sz q m k : Nat) : Value := .slice (A.map (·.add (k * q * sz))) (min q (m - k * q)) (min q (m - k * q))
def Hands (P : Program) (f : FuncId) (sz : Nat) : Prop :=
 ∀ (l b1 b2 : Nat) (A : Option Addr) (m c q : Nat) (J : Nat → World → Prop), 1 ≤ q → q ≤ 1073741824 → m ≤ c → c ≤ maxLen → m ≤ 4611686018427387904 → (0 < m → ∃ ad, A = some ad) →
  (∀ k W, J k W → W.cell? ⟨b1, 0, none⟩ = some (.slice A m c) ∧ W.cell? ⟨b2, 0, none⟩ = some (.int .i64 (q : Nat)) ∧ J k W.drew) →
  (∀ k W, J k W → k * q < m → YieldAt Fence.wide 5 P l #[pcv A sz q m k] W fun e W' => e = .returned (.bool true) ∧ J (k + 1) W') →
  ∀ W, J 0 W → CallsIn Fence.wide 6 P f #[.func (.yield l) #[] #[], .pointer (some ⟨b1, 0, none⟩), .pointer (some ⟨b2, 0, none⟩)] W fun e W' => (∃ v, e = .returned v) ∧ J ((m + q - 1) / q) W'
def objP (g : Nat) (o : Obj) : HP where
 P w S := S g ∧ w.heap[g]? = some o
 fr h hk := ⟨h.1, (hk g h.1).trans h.2⟩
 mono h hs := ⟨hs g h.1, h.2⟩
section
variable {P : Program} {r w : World} {L : List HP} {g : Nat} {o : Obj}
theorem SH.objGet (h : SH r L w) (i : Nat) (hi : L[i]? = some (objP g o)) : w.heap[g]? = some o := by
 obtain ⟨S, hb⟩ := h.get i hi
 exact hb.2
theorem SH.objPut (h : SH r (objP g o :: L) w) (o' : Obj) : SH r (objP g o' :: L) (w.putObj g o') := by
 obtain ⟨S1, S2, h1, h2, hd, hA, hL⟩ := h.head
 have hg : g < w.heap.size := h1 g hA.1
 refine h.upd (w' := w.putObj g o') (Ls := [objP g o']) h1 h2 hd hL rfl rfl rfl (by simp) (fun k hk hn => World.putObj_heap_other (fun e => hn (e ▸ hA.1))) fun S hS _ _ => ?_
 exact ⟨S, fun _ => False, fun k hk => hk, fun k hk => hk.elim, fun k _ hk => hk, ⟨hS g hA.1, World.putObj_heap_same hg⟩, trivial⟩
theorem SH.objNew (h : SH r L w) (o : Obj) : SH r (objP w.heap.size o :: L) (w.alloc o) :=
 h.new (w' := w.alloc o) rfl rfl rfl (by simp) (fun k hk => Below.heap_alloc _ _ _ hk) (Ls := [objP w.heap.size o]) fun S hS =>
  ⟨S, fun _ => False, fun _ h => h, fun _ h => h.elim, fun _ _ h => h, ⟨hS _ (Nat.le_refl _) (by simp), World.alloc_heap_new w _⟩, trivial⟩
end
theorem pk_append : ∀ (E B : List HP) (A : HP), pk E.length (E ++ A :: B) = A :: E ++ B
 | [], B, A => rfl
 | C :: E, B, A => by
  show (match pk E.length (E ++ A :: B) with | [] => [C] | B' :: M => B' :: C :: M) = _
  rw [pk_append E B A]
  rfl
theorem SH.front {r w : World} {E B : List HP} {A : HP} (h : SH r (E ++ A :: B) w) : SH r (A :: E ++ B) w := by
 have := h.pk E.length
 rwa [pk_append] at this
theorem SH.behind {r w : World} {B : List HP} {A : HP} : ∀ {E : List HP}, SH r (A :: E ++ B) w → SH r (E ++ A :: B) w := by
 intro E h
 refine ⟨h.os, h.tape, h.output, ?_⟩
 have key : ∀ (E : List HP) (S : Nat → Prop), Sep (A :: E ++ B) w S → Sep (E ++ A :: B) w S := by
  intro E
  induction E with
  | nil => intro S h; exact h
  | cons C E ih =>
   intro S h
   obtain ⟨S1, S2, h1, h2, hd, hC, hL⟩ := Sep.swap (L := E ++ B) h
   exact ⟨S1, S2, h1, h2, hd, hC, ih S2 hL⟩
 exact key E _ h.sep
abbrev coll (D0 : Nat) : Deferred := { target := .collected D0, args := #[] }
section
variable {σ α : Type} {d : Kd α} {P : Program} {f : FuncId} {q : Nat} {xs : List α} {φ : σ → List α → Option σ} {s0 y : σ} {n : Nat} {Fr : List (Nat × Value)} {a : Act} {w r : World} {L : List HP}
 {g : Operand} {p pc : Nat} {body : Code} {b1 b2 : Nat} {A : Option Addr} {m c : Nat} {Q : Exit → Act → World → Prop}
theorem pcs_count {m q k : Nat} (hq : 1 ≤ q) : k * q < m ↔ k < (m + q - 1) / q := by
 rw [show k < (m + q - 1) / q ↔ k + 1 ≤ (m + q - 1) / q from Iff.rfl, Nat.le_div_iff_mul_le (by omega), Nat.add_mul]
 omega
theorem pcs_get {k : Nat} (hq : 1 ≤ q) (h : k * q < xs.length) : (pcs q xs)[k]? = some ((xs.drop (k * q)).take q) := by
 unfold pcs
 rw [List.getElem?_map, List.getElem?_range ((pcs_count hq).1 h)]
 rfl
theorem pcs_len : (pcs q xs).length = (xs.length + q - 1) / q := by simp [pcs]
theorem foldlM_take {l : List (List α)} (h : l.foldlM φ s0 = some y) {k : Nat} {x : List α} (hk : l[k]? = some x) {s : σ} (hs : (l.take k).foldlM φ s0 = some s) : ∃ s', φ s x = some s' ∧ (l.take (k + 1)).foldlM φ s0 = some s' := by
 obtain ⟨hlt, e⟩ := List.getElem?_eq_some_iff.1 hk
 have h1 : l = l.take k ++ x :: l.drop (k + 1) := by
  rw [← e, List.getElem_cons_drop hlt, List.take_append_drop]
 rw [h1, List.foldlM_append, hs] at h
 simp only [Option.bind_eq_bind, Option.bind_some, List.foldlM_cons] at h
 obtain ⟨s', hs', _⟩ := Option.bind_eq_some_iff.1 h
 refine ⟨s', hs', ?_⟩
 rw [List.take_add_one, hk, List.foldlM_append, hs]
 simp [hs']
theorem Imm.pieces {Z : Nat → Prop} {wz : World} (h : Imm Z wz d A m c xs) : xs.length = m ∧ m ≤ c ∧ c ≤ maxLen ∧ (0 < m → ∃ ad, A = some ad) :=
 ⟨h.ln, by rw [← h.ln]; exact h.le, h.mx, fun hm => by obtain ⟨ad, e, _⟩ := h.rd (by rw [h.ln]; exact hm); exact ⟨ad, e⟩⟩
theorem Imm.piece {Z : Nat → Prop} {wz : World} (h : Imm Z wz d A m c xs) (hq : (Nat.blt 0 q) = true) {k : Nat} (hk : k * q < m) : ∃ A' n', pcv A d.sz q m k = .slice A' n' n' ∧ Imm Z wz d A' n' n' ((xs.drop (k * q)).take q) := by
 have hq1 : 1 ≤ q := Nat.le_of_ble_eq_true hq
 refine ⟨_, _, rfl, ?_⟩
 have h1 := h.cut (l := k * q) (u := k * q + min q (m - k * q)) (by omega) (by rw [h.ln]; omega)
 obtain ⟨a1, a2, a3, a4⟩ := h1
 have e : (xs.take (k * q + min q (m - k * q))).drop (k * q) = (xs.drop (k * q)).take q := by
  rw [List.drop_take, Nat.add_sub_cancel_left]
  rcases Nat.le_total q (m - k * q) with hh | hh
  ·rw [Nat.min_eq_left hh]
  ·rw [Nat.min_eq_right hh, List.take_of_length_le (by rw [List.length_drop, h.ln]; exact Nat.le_refl _), List.take_of_length_le (by rw [List.length_drop, h.ln]; exact hh)]
 rw [e] at a1 a2 a4
 have hl : ((xs.drop (k * q)).take q).length = min q (m - k * q) := by rw [List.length_take, List.length_drop, h.ln]
 have hle := h.le
 have hln := h.ln
 have hmx := h.mx
 refine ⟨hl, by rw [hl]; exact Nat.le_refl _, by omega, ?_⟩
 rw [if_neg (by omega)] at a4
 exact a4
theorem wp_pieces (hH : Hands P f d.sz) (hEN : EN P f) (hq : (Nat.blt 0 q && Nat.ble q 1073741824) = true) (hφ : (pcs q xs).foldlM φ s0 = some y) (hA : FR n [] a Fr)
  (hI : xs.length = m ∧ m ≤ c ∧ c ≤ maxLen ∧ (0 < m → ∃ ad, A = some ad)) (hm2 : xs.length ≤ 4611686018427387904)
  (X : σ → List HP → Prop) (E0 : List HP) (h0 : X s0 E0) (hS : SH r (E0 ++ L) w)
  (hx1 : ∀ s E, X s E → ∃ (i j : Nat) (T1 T2 : TypeId), E[i]? = some (blk b1 T1 [.slice A m c]) ∧ E[j]? = some (blk b2 T2 [.int .i64 (q : Nat)]))
  (hround : ∀ (lp k : Nat) (s s' : σ) (E B : List HP) (a' : Act) (w' : World), k * q < m → φ s ((xs.drop (k * q)).take q) = some s' → X s E → FR n [] a' ((pc, pcv A d.sz q m k) :: (p, pcv A d.sz q m k) :: Fr) → SH r (E ++ B) w' →
   ∀ Qr : Exit → Act → World → Prop, ¬ LetsOut Qr → (∀ a'' w'' E', X s' E' → SH r (E' ++ B) w'' → Qr .normal a'' w'') → body.wpIn (Fence.wide.inRound lp) 5 P Qr a' w')
  (hdone : ∀ (D0 : Nat) (E : List HP) (a' : Act) (w' : World), X y E → FR n [coll D0] a' Fr → SH r (E ++ objP D0 (.deferred (some [])) :: L) w' → Q .normal a' w')
  {ida : Nat} {oa : Oper}
  (hg : ev Fr g = some (.func (.func f) #[] #[.pointer (some ⟨b1, 0, none⟩), .pointer (some ⟨b2, 0, none⟩)]) := by rfl) (hp : Nat.blt p n = true := by rfl) (hpc : Nat.blt pc n = true := by rfl)
  (ho : oa.op = .assign (.tmp p) := by rfl) (hod : oa.dst = some pc := by rfl) (hog : oa.guard = none := by rfl) : (Code.rangeFunc g #[p] (.region ida #[oa] false) body).wp P Q a w := by
 obtain ⟨hm, hmc, hc, hAs⟩ := hI
 have hm2 : m ≤ 4611686018427387904 := by rw [← hm]; exact hm2
 have hq1 : 1 ≤ q := by simp only [Bool.and_eq_true] at hq; exact Nat.le_of_ble_eq_true hq.1
 have hq2 : q ≤ 1073741824 := by simp only [Bool.and_eq_true] at hq; exact Nat.le_of_ble_eq_true hq.2
 have hp' : p < n := Nat.le_of_ble_eq_true hp
 have hpc' : pc < n := Nat.le_of_ble_eq_true hpc
 refine (wpIn_wide (n := 7)).1 ?_
 refine wpIn_rangeFunc ?_
 intro fn hfn
 rw [show Fence.wide.round = none from rfl]
 obtain ⟨rec, hrec⟩ : ∃ rec : LoopState → Option Code → Loop, rec = fun st pe => { state := st, pending := pe, fn, tmps := a.tmps, params := #[p], assign := .region ida #[oa] false, body, defers := w.heap.size } := ⟨_, rfl⟩
 obtain ⟨D0, hD0⟩ : ∃ D0, D0 = w.heap.size := ⟨_, rfl⟩
 obtain ⟨l, hl⟩ : ∃ l, l = w.heap.size + 1 := ⟨_, rfl⟩
 obtain ⟨W1, hW1⟩ : ∃ W1, (w.alloc (.deferred (some []))).alloc (.loop (rec .ready none)) = W1 := ⟨_, rfl⟩
 have hS1 : SH r (E0 ++ objP l (.loop (rec .ready none)) :: objP D0 (.deferred (some [])) :: L) W1 := by
  have h1 := hS.objNew (.deferred (some []))
  have h2 := SH.behind h1
  have h3 := h2.objNew (.loop (rec .ready none))
  rw [World.size_alloc, hW1] at h3
  rw [hl, hD0]
  exact SH.behind h3
 refine ⟨l, [coll D0], W1, { target := .fn (.func f) #[.pointer (some ⟨b1, 0, none⟩), .pointer (some ⟨b2, 0, none⟩)], args := #[.func (.yield l) #[] #[]] }, W1, f,
  #[.func (.yield l) #[] #[]] ++ #[.pointer (some ⟨b1, 0, none⟩), .pointer (some ⟨b2, 0, none⟩)], W1, ?_, ?_, ?_, ?_, fun _ => by omega, ?_⟩
 ·rw [← hW1, hrec, hl, hD0]; exact run_enterLoop_outer _ _ _ _ _
 ·simp only [resolve, hA.ev hg]
  simp [go_sem]
 ·intro f' hf'; trivial
 ·simp [invoke, go_sem]
  exact hEN _ _
 ·have J0 : ∃ J : Nat → World → Prop, J = fun k W => ∃ s E, ((pcs q xs).take k).foldlM φ s0 = some s ∧ X s E ∧ SH r (E ++ objP l (.loop (rec .ready none)) :: objP D0 (.deferred (some [])) :: L) W := ⟨_, rfl⟩
  obtain ⟨J, hJ⟩ := J0
  refine (hH l b1 b2 A m c q J hq1 hq2 hmc hc hm2 hAs ?_ ?_ W1 ?_).mono ?_
  ·intro k W hk
   rw [hJ] at hk ⊢
   obtain ⟨s, E, hf, hX, hSk⟩ := hk
   obtain ⟨i, j, T1, T2, e1, e2⟩ := hx1 s E hX
   have hi : i < E.length := (List.getElem?_eq_some_iff.1 e1).1
   have hj : j < E.length := (List.getElem?_eq_some_iff.1 e2).1
   exact ⟨hSk.cell i (by rw [List.getElem?_append_left hi]; exact e1) 0 _ rfl, hSk.cell j (by rw [List.getElem?_append_left hj]; exact e2) 0 _ rfl, s, E, hf, hX, hSk.drew⟩
  ·intro k W hk hlt
   rw [hJ] at hk
   obtain ⟨s, E, hf, hX, hSk⟩ := hk
   obtain ⟨s', hs', hf'⟩ := foldlM_take hφ (pcs_get hq1 (by rw [hm]; exact hlt)) hf
   have hl1 : W.heap[l]? = some (.loop (rec .ready none)) := hSk.front.objGet 0 rfl
   have hy := run_yield (P := P) (args := #[pcv A d.sz q m k]) hl1 (by rw [hrec]; simp)
   rw [hrec] at hy
   refine ⟨fn, _, _, body, hy, roundIn_of_wpIn hfn ?_⟩
   have hA1 : FR n [] ({ tmps := ((#[p].zip #[pcv A d.sz q m k]).foldl (fun t (x : Nat × Value) => t.setIfInBounds x.1 x.2) a.tmps), defers := [] } : Act) ((p, pcv A d.sz q m k) :: Fr) := by
    have := hA.put p (pcv A d.sz q m k) hp'
    exact ⟨by simpa [Act.put] using this.size, rfl, fun t v hv => by simpa [Act.put] using this.at_ t v hv⟩
   refine in_reg (by rintro ⟨_, _, h⟩; exact h) (by simp [Oper.nodefer, ho]) ?_
   refine x_assign (v := pcv A d.sz q m k) hA1 (fun ac hA2 => ?_) ho (by show lk _ _ = _; simp [lk]) hod hog hpc
   refine wpList_nil ?_
   have hSb := hSk.front.objPut (.loop { rec .ready none with state := .busy })
   refine ⟨_, run_beginRound hl1 (by rw [hrec]), ?_⟩
   refine hround l k s s' E _ ac _ hlt hs' hX hA2 (SH.behind hSb) _ (by rintro ⟨_, _, h⟩; exact h) ?_
   intro a3 W3 E' hX' hS3
   have hl3 := hS3.front.objGet 0 rfl
   refine ⟨_, _, run_endRound none hl3, rfl, ?_⟩
   rw [hJ]
   have h4 := hS3.front.objPut (.loop { { rec .ready none with state := .busy } with state := .ready, pending := none })
   refine ⟨s', E', hf', hX', ?_⟩
   have h5 := SH.behind h4
   rw [hrec] at h5 ⊢
   exact h5
  ·rw [hJ]; exact ⟨s0, E0, by simp, h0, hS1⟩
  ·rintro e W2 ⟨⟨v, rfl⟩, hk⟩
   rw [hJ] at hk
   obtain ⟨s, E, hf, hX, hSk⟩ := hk
   rw [← hm, ← pcs_len, List.take_length, hφ] at hf
   cases hf
   have hl1 : W2.heap[l]? = some (.loop (rec .ready none)) := hSk.front.objGet 0 rfl
   refine ⟨none, _, by have := run_endLoop (P := P) hl1 (by rw [hrec]; simp); rw [hrec] at this; exact this, ?_⟩
   have h6 := (hSk.front.objPut (.loop { state := .exhausted, pending := none, fn := fn, tmps := a.tmps, params := #[p], assign := .region ida #[oa] false, body := body, defers := w.heap.size })).tail
   exact hdone D0 E _ _ hX ⟨hA.size, by simp [hA.defers], hA.at_⟩ h6
end
section
variable {P : Program} {f : FuncId} {fn : Func} {cd : Code} {args : Array Value} {w : World} {R : Value → World → Prop} {n : Nat}
theorem enterM (hf : P.funcs[f]? = some fn) (hb : fn.body = some cd) (hn : fn.ntmps = n)
  (F : List (Nat × Value)) (hF : F.map (fun p => args[p.1]?) = F.map fun p => some p.2) (hle : (args.size ≤ n) = True)
  (h : ∀ a, FR n [] a F → ∀ Qf : Exit → Act → World → Prop, (∀ a w, bodyPost P fn (fun e w' => ∃ v, e = .returned v ∧ R v w') .ret a w → Qf .ret a w) →
   (∀ (D0 : Nat) (F : List (Nat × Value)) (r : World) (L : List HP) a w, FR n [coll D0] a F → SH r (objP D0 (.deferred (some [])) :: L) w → (∀ a w, FR n [] a F → SH r L w → bodyPost P fn (fun e w' => ∃ v, e = .returned v ∧ R v w') .ret a w) → Qf .ret a w) → cd.wp P Qf a w) : Ret P f args w R := by
 refine (callsIn_wide (n := 8)).1 (callsIn_of_wp_marks hf hb trivial (wpIn_wide.2 (h _ ⟨?_, rfl, ?_⟩ _ ?_ ?_)))
 ·have := of_eq_true hle
  simp [hn]; omega
 ·intro t v hv
  clear h
  induction F with
  | nil => cases hv
  | cons p q ih =>
   obtain ⟨k, u⟩ := p
   simp only [List.map_cons, List.cons.injEq] at hF
   simp only [lk] at hv
   by_cases e : Nat.beq k t = true
   ·rw [e] at hv
    have e' := Nat.eq_of_beq_eq_true e
    subst e'
    cases hv
    have hlt := (Array.getElem?_eq_some_iff.1 hF.1).1
    show (args ++ _)[k]? = _
    rw [Array.getElem?_append_left hlt]
    exact hF.1
   ·rw [Bool.eq_false_iff.2 e] at hv
    exact ih hF.2 hv
 ·rintro a w ⟨hd, v, hr, hR⟩
  show LeavesInM _ _ _ _ _ _ a.defers _ _
  rw [hd]
  exact ⟨v, hr, hR⟩
 ·intro D0 F r L a w hA hS h
  show LeavesInM _ _ _ _ _ _ a.defers _ _
  rw [hA.defers]
  have hg := hS.objGet 0 rfl
  refine ⟨by simp, .inl ⟨D0, _, rfl, run_takeDeferred hg, ?_⟩⟩
  obtain ⟨_, v, hr, hR⟩ := h { a with defers := [] } _ ⟨hA.size, rfl, hA.at_⟩ (hS.objPut (.deferred none)).tail
  exact ⟨v, hr, hR⟩
end
end Go.Proofs.YteodeedejjcmgaaDoor.E

namespace Go.Proofs.YteodeedejjcmgaaDoor.E
open Go Go.RowKit
def mvB (n : Nat) (F : List (Nat × Value)) : Option Nat → Op → Option (Nat × Bool) → Option (Nat × Value)
 | some t, .move x, none => bif Nat.blt t n then (ev F x).map fun v => (t, v) else none
 | some t, .assign x, none => bif Nat.blt t n then (ev F x).map fun v => (t, v) else none
 | _, _, _ => none
section
variable {P : Program} {ops : Array Oper} {Q : Exit → Act → World → Prop} {o : Oper} {rest : List Oper} {a : Act} {w : World} {n t : Nat} {D : List Deferred} {F : List (Nat × Value)} {v : Value}
theorem x_m (hA : FR n D a F) (h : mvB n F o.dst o.op o.guard = some (t, v)) (kk : ∀ a', FR n D a' ((t, v) :: F) → wpList P ops Q rest a' w) : wpList P ops Q (o :: rest) a w := by
 unfold mvB at h
 split at h
 ·rename_i t' x hd ho hg
  cases hb : Nat.blt t' n with
  | false => rw [hb] at h; cases h
  | true =>
   rw [hb] at h
   cases hx : ev F x with
   | none => rw [hx] at h; cases h
   | some u => rw [hx] at h; cases h; exact x_move hA kk ho hx hd hg hb
 ·rename_i t' x hd ho hg
  cases hb : Nat.blt t' n with
  | false => rw [hb] at h; cases h
  | true =>
   rw [hb] at h
   cases hx : ev F x with
   | none => rw [hx] at h; cases h
   | some u => rw [hx] at h; cases h; exact x_assign hA kk ho hx hd hg hb
 ·cases h
def offsB (n : Nat) (j : Nat) (b : Bool) (tg : Nat) : Nat → List Oper → List (Nat × Value) → Option (List Oper × List (Nat × Value))
 | 0, l, F => some (l, F)
 | k + 1, o :: l, F => match o.guard, o.dst with
  | some (j', b'), some t => bif Nat.beq j j' && (b == b') && Nat.blt t n && !Nat.beq t tg then offsB n j b tg k l ((t, undef) :: F) else none
  | _, _ => none
 | _, [], _ => none
theorem x_offsI {j tg : Nat} {b b' : Bool} (hb : b' = !b) (hj : (ops[j]?).bind (·.dst) = some tg) : ∀ (k : Nat) {l rest : List Oper} {F F' : List (Nat × Value)} {a : Act}, FR n D a F → lk F tg = some (.bool b') → offsB n j b tg k l F = some (rest, F') →
  (∀ a', FR n D a' F' → wpList P ops Q rest a' w) → wpList P ops Q l a w
 | 0, l, rest, F, F', a, hA, hv, h, kk => by cases h; exact kk a hA
 | k + 1, [], rest, F, F', a, hA, hv, h, kk => by cases h
 | k + 1, o :: l, rest, F, F', a, hA, hv, h, kk => by
  unfold offsB at h
  split at h
  ·rename_i j' b'' t hg hd
   cases hc : Nat.beq j j' && (b == b'') && Nat.blt t n && !Nat.beq t tg with
   | false => rw [hc] at h; cases h
   | true =>
    rw [hc] at h
    simp only [Bool.and_eq_true, beq_iff_eq, Bool.not_eq_true'] at hc
    obtain ⟨⟨⟨h1, h2⟩, h3⟩, h4⟩ := hc
    have h1 := Nat.eq_of_beq_eq_true h1
    subst h1
    subst h2
    refine x_off hb hA (fun a' hA' => ?_) hg hj hv hd h3
    exact x_offsI hb hj k hA' (by simp only [lk, h4]; exact hv) h kk
  ·cases h
theorem xO {j tg : Nat} {b b' : Bool} {l : List Oper} {F' : List (Nat × Value)} (k : Nat) (hb : b' = !b) (hA : FR n D a F) (h : (l.head?.bind (·.guard), (ops[j]?).bind (·.dst), lk F tg, offsB n j b tg k l F) = (some (j, b), some tg, some (.bool b'), some (rest, F'))) (kk : ∀ a', FR n D a' F' → wpList P ops Q rest a' w) : wpList P ops Q l a w :=
 x_offsI hb (congrArg (·.2.1) h) k hA (congrArg (·.2.2.1) h) (congrArg (·.2.2.2) h) kk
section
variable {M : List Nat} {F0 VL E : List (Nat × Value)} {effs done : List Nat} {p m e : Nat}
def mvP (ops : Array Oper) (M : List Nat) (F0 VL : List (Nat × Value)) (p : Nat) : Option Value := match ops[p]? with
 | none => none
 | some o => match o.guard with
  | some _ => none
  | none => match o.op with
   | .move (.tmp t) => src ops M F0 VL p t
   | .assign (.tmp t) => src ops M F0 VL p t
   | .move (.const c) => some c
   | .assign (.const c) => some c
   | _ => none
theorem pm (h : (mvP ops M F0 VL p, lk VL p) = (some v, some v)) : PureOk P ops n D M F0 VL w p := by
 have h1 : mvP ops M F0 VL p = some v := congrArg (·.1) h
 have h2 : lk VL p = some v := congrArg (·.2) h
 unfold mvP at h1
 split at h1
 ·cases h1
 ·rename_i o ho
  split at h1
  ·cases h1
  ·rename_i hg
   have one : ∀ t, src ops M F0 VL p t = some v → (∀ a, FR n D a [(t, v)] → RunV P o a w v) → PureOk P ops n D M F0 VL w p := fun t hs hr =>
    ⟨o, v, [(t, v)], ho, h2, by simp [hs], fun a he => by unfold Runs; rw [if_pos (by simp [Region.wanted, hg])]; exact hr a he⟩
   have two : (∀ a, FR n D a [] → RunV P o a w v) → PureOk P ops n D M F0 VL w p := fun hr =>
    ⟨o, v, [], ho, h2, rfl, fun a he => by unfold Runs; rw [if_pos (by simp [Region.wanted, hg])]; exact hr a he⟩
   split at h1
   ·rename_i t hop; exact one t h1 fun a he => r_move hop (he.ev (x := .tmp t) (by simp [ev, lk]))
   ·rename_i t hop; exact one t h1 fun a he => r_assign hop (he.ev (x := .tmp t) (by simp [ev, lk]))
   ·rename_i c hop; cases h1; exact two fun a he => r_move hop rfl
   ·rename_i c hop; cases h1; exact two fun a he => r_assign hop rfl
   ·cases h1
theorem pt (E : List (Nat × Value)) (ht : (ops[p]?, lk VL p, o.guard, E.map (fun q => src ops M F0 VL p q.1)) = (some o, some v, none, E.map (fun q => some q.2))) (h : ∀ a, FR n D a E → RunV P o a w v) : PureOk P ops n D M F0 VL w p :=
 pu (congrArg (·.1) ht) (congrArg (·.2.1) ht) E h (congrArg (·.2.2.1) ht) (congrArg (·.2.2.2) ht)
theorem et (E : List (Nat × Value)) (ht : (ops[e]?, o.guard, E.map (fun q => src ops M F0 VL e q.1)) = (some o, none, E.map (fun q => some q.2)))
  (h : ∀ a, FR n D a E → ∀ K : Act → World → Prop, (∀ v NV w', NV.all (fun q => (lk ((e, v) :: VL) q.1).isNone) = true → DrawOk P ops Q n D M F0 effs m (e :: done) (NV ++ (e, v) :: VL) w' → K (a.put o.dst v) w') → o.wp P a w K Q) : EffOk P ops Q n D M F0 effs m done VL w e :=
 ef (congrArg (·.1) ht) E h (congrArg (·.2.1) ht) (congrArg (·.2.2) ht)
theorem dF (ps es : List Nat) (hp : (candP ops M effs done, candE ops M effs done, effs.all (done.contains ·)) = (ps, es, false)) (h : AllP (PureOk P ops n D M F0 VL w) ps) (hE : AllP (EffOk P ops Q n D M F0 effs m done VL w) es) : DrawOk P ops Q n D M F0 effs (m + 1) done VL w :=
 dEff ps es (congrArg (·.1) hp) h (congrArg (·.2.1) hp) (congrArg (·.2.2) hp) hE
end
def dsB (n : Nat) : Option Nat → Option (Nat × Bool) → Option Nat
 | some t, none => bif Nat.blt t n then some t else none
 | _, _ => none
theorem x_v (hA : FR n D a F) (r : RunV P o a w v) (h : dsB n o.dst o.guard = some t) (kk : ∀ a', FR n D a' ((t, v) :: F) → wpList P ops Q rest a' w) : wpList P ops Q (o :: rest) a w := by
 unfold dsB at h
 split at h
 ·rename_i t' hd hg
  cases hb : Nat.blt t' n with
  | false => rw [hb] at h; cases h
  | true => rw [hb] at h; cases h; exact x_val hA r kk hd hg hb
 ·cases h
theorem wn (h : Q .normal a w) : wpList P ops Q [] a w := wpList_nil h
theorem ws {id : Nat} {c : Code} (h : ∀ K : Act → World → Prop, (∀ a w, c.wp P Q a w → K a w) → wpList P ops (Exit.then K Q) ops.toList a w) : ((Code.region id ops false).seq c).wp P Q a w :=
 wp_seq_k fun K hK => wp_reg (h K hK)
end
end Go.Proofs.YteodeedejjcmgaaDoor.E
namespace Go.Proofs.YteodeedejjcmgaaDoor.M
open Go Go.RowKit Go.Proofs.YteodeedejjcmgaaDoor.E
set_option linter.unusedVariables false
set_option linter.unusedSimpArgs false
def badC : List PanicEntry := [{ v := .iface 102 (.agg #[]), recovered := false }]
theorem by44 : Tryd.prog.bytesOf 44 = 48 := by kernel_rfl
theorem ce2 : Tryd.prog.cellsOf 2 = 1 := by kernel_rfl
theorem ce3 : Tryd.prog.cellsOf 3 = 1 := by kernel_rfl
theorem ce31 : Tryd.prog.cellsOf 31 = 1 := by kernel_rfl
theorem ce42 : Tryd.prog.cellsOf 42 = 1 := by kernel_rfl
theorem ce44 : Tryd.prog.cellsOf 44 = 5 := by kernel_rfl
theorem ce48 : Tryd.prog.cellsOf 48 = 1 := by kernel_rfl
theorem ce9 : Tryd.prog.cellsOf 9 = 1 := by kernel_rfl
theorem en10 : EN Tryd.prog 10 := EN_of Tryd.func10 (by kernel_rfl) rfl
theorem en101 : EN Tryd.prog 101 := EN_of Tryd.func101 (by kernel_rfl) rfl
theorem en102 : EN Tryd.prog 102 := EN_of Tryd.func102 (by kernel_rfl) rfl
theorem en11 : EN Tryd.prog 11 := EN_of Tryd.func11 (by kernel_rfl) rfl
theorem en13 : EN Tryd.prog 13 := EN_of Tryd.func13 (by kernel_rfl) rfl
theorem en14 : EN Tryd.prog 14 := EN_of Tryd.func14 (by kernel_rfl) rfl
theorem en15 : EN Tryd.prog 15 := EN_of Tryd.func15 (by kernel_rfl) rfl
theorem en16 : EN Tryd.prog 16 := EN_of Tryd.func16 (by kernel_rfl) rfl
theorem en17 : EN Tryd.prog 17 := EN_of Tryd.func17 (by kernel_rfl) rfl
theorem en18 : EN Tryd.prog 18 := EN_of Tryd.func18 (by kernel_rfl) rfl
theorem en19 : EN Tryd.prog 19 := EN_of Tryd.func19 (by kernel_rfl) rfl
theorem en23 : EN Tryd.prog 23 := EN_of Tryd.func23 (by kernel_rfl) rfl
theorem en24 : EN Tryd.prog 24 := EN_of Tryd.func24 (by kernel_rfl) rfl
theorem en25 : EN Tryd.prog 25 := EN_of Tryd.func25 (by kernel_rfl) rfl
theorem en26 : EN Tryd.prog 26 := EN_of Tryd.func26 (by kernel_rfl) rfl
theorem en27 : EN Tryd.prog 27 := EN_of Tryd.func27 (by kernel_rfl) rfl
theorem en28 : EN Tryd.prog 28 := EN_of Tryd.func28 (by kernel_rfl) rfl
theorem en29 : EN Tryd.prog 29 := EN_of Tryd.func29 (by kernel_rfl) rfl
theorem en30 : EN Tryd.prog 30 := EN_of Tryd.func30 (by kernel_rfl) rfl
theorem en31 : EN Tryd.prog 31 := EN_of Tryd.func31 (by kernel_rfl) rfl
theorem en37 : EN Tryd.prog 37 := EN_of Tryd.func37 (by kernel_rfl) rfl
theorem en38 : EN Tryd.prog 38 := EN_of Tryd.func38 (by kernel_rfl) rfl
theorem en39 : EN Tryd.prog 39 := EN_of Tryd.func39 (by kernel_rfl) rfl
theorem en40 : EN Tryd.prog 40 := EN_of Tryd.func40 (by kernel_rfl) rfl
theorem en41 : EN Tryd.prog 41 := EN_of Tryd.func41 (by kernel_rfl) rfl
theorem en42 : EN Tryd.prog 42 := EN_of Tryd.func42 (by kernel_rfl) rfl
theorem en43 : EN Tryd.prog 43 := EN_of Tryd.func43 (by kernel_rfl) rfl
theorem en44 : EN Tryd.prog 44 := EN_of Tryd.func44 (by kernel_rfl) rfl
theorem en45 : EN Tryd.prog 45 := EN_of Tryd.func45 (by kernel_rfl) rfl
theorem en46 : EN Tryd.prog 46 := EN_of Tryd.func46 (by kernel_rfl) rfl
theorem en47 : EN Tryd.prog 47 := EN_of Tryd.func47 (by kernel_rfl) rfl
theorem en48 : EN Tryd.prog 48 := EN_of Tryd.func48 (by kernel_rfl) rfl
theorem en49 : EN Tryd.prog 49 := EN_of Tryd.func49 (by kernel_rfl) rfl
theorem en50 : EN Tryd.prog 50 := EN_of Tryd.func50 (by kernel_rfl) rfl
theorem en56 : EN Tryd.prog 56 := EN_of Tryd.func56 (by kernel_rfl) rfl
theorem en57 : EN Tryd.prog 57 := EN_of Tryd.func57 (by kernel_rfl) rfl
theorem en58 : EN Tryd.prog 58 := EN_of Tryd.func58 (by kernel_rfl) rfl
theorem en59 : EN Tryd.prog 59 := EN_of Tryd.func59 (by kernel_rfl) rfl
theorem en60 : EN Tryd.prog 60 := EN_of Tryd.func60 (by kernel_rfl) rfl
theorem en61 : EN Tryd.prog 61 := EN_of Tryd.func61 (by kernel_rfl) rfl
theorem en62 : EN Tryd.prog 62 := EN_of Tryd.func62 (by kernel_rfl) rfl
theorem en63 : EN Tryd.prog 63 := EN_of Tryd.func63 (by kernel_rfl) rfl
theorem en64 : EN Tryd.prog 64 := EN_of Tryd.func64 (by kernel_rfl) rfl
theorem en65 : EN Tryd.prog 65 := EN_of Tryd.func65 (by kernel_rfl) rfl
theorem en66 : EN Tryd.prog 66 := EN_of Tryd.func66 (by kernel_rfl) rfl
theorem en67 : EN Tryd.prog 67 := EN_of Tryd.func67 (by kernel_rfl) rfl
theorem en68 : EN Tryd.prog 68 := EN_of Tryd.func68 (by kernel_rfl) rfl
theorem en69 : EN Tryd.prog 69 := EN_of Tryd.func69 (by kernel_rfl) rfl
theorem en70 : EN Tryd.prog 70 := EN_of Tryd.func70 (by kernel_rfl) rfl
theorem en71 : EN Tryd.prog 71 := EN_of Tryd.func71 (by kernel_rfl) rfl
theorem en72 : EN Tryd.prog 72 := EN_of Tryd.func72 (by kernel_rfl) rfl
theorem en73 : EN Tryd.prog 73 := EN_of Tryd.func73 (by kernel_rfl) rfl
theorem en75 : EN Tryd.prog 75 := EN_of Tryd.func75 (by kernel_rfl) rfl
theorem en76 : EN Tryd.prog 76 := EN_of Tryd.func76 (by kernel_rfl) rfl
theorem en77 : EN Tryd.prog 77 := EN_of Tryd.func77 (by kernel_rfl) rfl
theorem en78 : EN Tryd.prog 78 := EN_of Tryd.func78 (by kernel_rfl) rfl
theorem en79 : EN Tryd.prog 79 := EN_of Tryd.func79 (by kernel_rfl) rfl
theorem en80 : EN Tryd.prog 80 := EN_of Tryd.func80 (by kernel_rfl) rfl
theorem en81 : EN Tryd.prog 81 := EN_of Tryd.func81 (by kernel_rfl) rfl
theorem en82 : EN Tryd.prog 82 := EN_of Tryd.func82 (by kernel_rfl) rfl
theorem en83 : EN Tryd.prog 83 := EN_of Tryd.func83 (by kernel_rfl) rfl
theorem en87 : EN Tryd.prog 87 := EN_of Tryd.func87 (by kernel_rfl) rfl
theorem en88 : EN Tryd.prog 88 := EN_of Tryd.func88 (by kernel_rfl) rfl
theorem en90 : EN Tryd.prog 90 := EN_of Tryd.func90 (by kernel_rfl) rfl
theorem en92 : EN Tryd.prog 92 := EN_of Tryd.func92 (by kernel_rfl) rfl
theorem en93 : EN Tryd.prog 93 := EN_of Tryd.func93 (by kernel_rfl) rfl
theorem en94 : EN Tryd.prog 94 := EN_of Tryd.func94 (by kernel_rfl) rfl
theorem en96 : EN Tryd.prog 96 := EN_of Tryd.func96 (by kernel_rfl) rfl
theorem en97 : EN Tryd.prog 97 := EN_of Tryd.func97 (by kernel_rfl) rfl
theorem ex89 (b : Nat) : EXT Tryd.prog 89 #[.float .f64 b] (.int .u64 b) := fun w => by kernel_rfl
theorem ex95 (n : Int) : EXT Tryd.prog 95 #[.int .u64 n] (.float .f64 n.toNat) := fun w => by kernel_rfl
theorem fa106_0 : FA Tryd.prog 106 0 0 := fun ad w => by kernel_rfl
theorem fa33_0 : FA Tryd.prog 33 0 0 := fun ad w => by kernel_rfl
theorem fa33_1 : FA Tryd.prog 33 1 1 := fun ad w => by kernel_rfl
theorem fa33_2 : FA Tryd.prog 33 2 2 := fun ad w => by kernel_rfl
theorem fa33_3 : FA Tryd.prog 33 3 3 := fun ad w => by kernel_rfl
theorem fa41_0 : FA Tryd.prog 41 0 0 := fun ad w => by kernel_rfl
theorem fa41_1 : FA Tryd.prog 41 1 1 := fun ad w => by kernel_rfl
theorem fa41_2 : FA Tryd.prog 41 2 2 := fun ad w => by kernel_rfl
theorem fa41_3 : FA Tryd.prog 41 3 3 := fun ad w => by kernel_rfl
theorem fa41_4 : FA Tryd.prog 41 4 4 := fun ad w => by kernel_rfl
theorem fa41_5 : FA Tryd.prog 41 5 5 := fun ad w => by kernel_rfl
theorem fa41_6 : FA Tryd.prog 41 6 6 := fun ad w => by kernel_rfl
theorem fa41_7 : FA Tryd.prog 41 7 7 := fun ad w => by kernel_rfl
theorem fa44_0 : FA Tryd.prog 44 0 0 := fun ad w => by kernel_rfl
theorem fa44_1 : FA Tryd.prog 44 1 1 := fun ad w => by kernel_rfl
theorem fa44_2 : FA Tryd.prog 44 2 2 := fun ad w => by kernel_rfl
theorem fa44_3 : FA Tryd.prog 44 3 3 := fun ad w => by kernel_rfl
theorem fa44_4 : FA Tryd.prog 44 4 4 := fun ad w => by kernel_rfl
theorem fa83_0 : FA Tryd.prog 83 0 0 := fun ad w => by kernel_rfl
theorem fa83_1 : FA Tryd.prog 83 1 1 := fun ad w => by kernel_rfl
theorem fa83_2 : FA Tryd.prog 83 2 2 := fun ad w => by kernel_rfl
theorem gt41 : Tryd.prog.eqGuardType Tryd.prog.depth 41 = false := by kernel_rfl
theorem inf2 : (Tryd.prog.info? 2).map (fun i => (i.zero, i.size, i.bytes)) = some (some (.int .i64 0), 1, 8) := by kernel_rfl
theorem inf4 : (Tryd.prog.info? 4).map (fun i => (i.zero, i.size, i.bytes)) = some (some (.bool false), 1, 1) := by kernel_rfl
theorem inf41 : (Tryd.prog.info? 41).map (fun i => (i.zero, i.size, i.bytes)) = some (some (.agg #[(.int .i64 0), (.int .i64 0), (.int .u64 0), (.int .u64 0), (.int .i64 0), (.int .i64 0), (str []), (str [])]), 8, 80) := by kernel_rfl
theorem inf42 : (Tryd.prog.info? 42).map (fun i => (i.zero, i.size, i.bytes)) = some (some (.float .f64 0), 1, 8) := by kernel_rfl
theorem inf44 : (Tryd.prog.info? 44).map (fun i => (i.zero, i.size, i.bytes)) = some (some (.agg #[(.int .u64 0), (.int .i64 0), (.int .i64 0), (str []), (.float .f64 0)]), 5, 48) := by kernel_rfl
theorem inf5 : (Tryd.prog.info? 5).map (fun i => (i.zero, i.size, i.bytes)) = some (some (.int .u8 0), 1, 1) := by kernel_rfl
theorem inf9 : (Tryd.prog.info? 9).map (fun i => (i.zero, i.size, i.bytes)) = some (some (str []), 1, 16) := by kernel_rfl
theorem si41 : Tryd.prog.stoodInHeld 41 = false := by kernel_rfl
theorem sz102 : (Tryd.prog.info? 102).map (·.size) = some 0 := by kernel_rfl
theorem sz2 : (Tryd.prog.info? 2).map (·.size) = some 1 := by kernel_rfl
theorem sz24 : (Tryd.prog.info? 24).map (·.size) = some 1 := by kernel_rfl
theorem sz25 : (Tryd.prog.info? 25).map (·.size) = some 1 := by kernel_rfl
theorem sz3 : (Tryd.prog.info? 3).map (·.size) = some 1 := by kernel_rfl
theorem sz31 : (Tryd.prog.info? 31).map (·.size) = some 1 := by kernel_rfl
theorem sz33 : (Tryd.prog.info? 33).map (·.size) = some 4 := by kernel_rfl
theorem sz38 : (Tryd.prog.info? 38).map (·.size) = some 1 := by kernel_rfl
theorem sz4 : (Tryd.prog.info? 4).map (·.size) = some 1 := by kernel_rfl
theorem sz41 : (Tryd.prog.info? 41).map (·.size) = some 8 := by kernel_rfl
theorem sz42 : (Tryd.prog.info? 42).map (·.size) = some 1 := by kernel_rfl
theorem sz44 : (Tryd.prog.info? 44).map (·.size) = some 5 := by kernel_rfl
theorem sz48 : (Tryd.prog.info? 48).map (·.size) = some 1 := by kernel_rfl
theorem sz5 : (Tryd.prog.info? 5).map (·.size) = some 1 := by kernel_rfl
theorem sz9 : (Tryd.prog.info? 9).map (·.size) = some 1 := by kernel_rfl
theorem sz90 : (Tryd.prog.info? 90).map (·.size) = some 1 := by kernel_rfl
theorem sz91 : (Tryd.prog.info? 91).map (·.size) = some 1 := by kernel_rfl
theorem zr102 : (Tryd.prog.info? 102).bind (·.zero) = some (.agg #[]) := by kernel_rfl
theorem zr111 : (Tryd.prog.info? 111).bind (·.zero) = some (.agg #[(.slice none 0 0), (.slice none 0 0), (.slice none 0 0), (.slice none 0 0), (.slice none 0 0)]) := by kernel_rfl
theorem zr24 : (Tryd.prog.info? 24).bind (·.zero) = some (.slice none 0 0) := by kernel_rfl
theorem zr38 : (Tryd.prog.info? 38).bind (·.zero) = some (.slice none 0 0) := by kernel_rfl
theorem zr4 : (Tryd.prog.info? 4).bind (·.zero) = some (.bool false) := by kernel_rfl
theorem zr41 : (Tryd.prog.info? 41).bind (·.zero) = some (.agg #[(.int .i64 0), (.int .i64 0), (.int .u64 0), (.int .u64 0), (.int .i64 0), (.int .i64 0), (str []), (str [])]) := by kernel_rfl
theorem zr44 : (Tryd.prog.info? 44).bind (·.zero) = some (.agg #[(.int .u64 0), (.int .i64 0), (.int .i64 0), (str []), (.float .f64 0)]) := by kernel_rfl
theorem zr90 : (Tryd.prog.info? 90).bind (·.zero) = some (.slice none 0 0) := by kernel_rfl
theorem zr91 : (Tryd.prog.info? 91).bind (·.zero) = some (.slice none 0 0) := by kernel_rfl
set_option maxRecDepth 100000 in
theorem eqs41 (x y : S41) (w : World) : (Op.equalIn 10000 41 (.agg #[.int .i64 x.f0, .int .i64 x.f1, .int .u64 x.f2, .int .u64 x.f3, .int .i64 x.f4, .int .i64 x.f5, str x.f6, str x.f7]) (.agg #[.int .i64 y.f0, .int .i64 y.f1, .int .u64 y.f2, .int .u64 y.f3, .int .i64 y.f4, .int .i64 y.f5, str y.f6, str y.f7])).run Tryd.prog w = .ok (eq41 x y) w :=
  eqs Tryd.underlying41 si41 (eqf (part_flat Tryd.underlying3 rfl rfl) (part_flat Tryd.underlying3 rfl rfl) (run_equalIn_int w 9998 3 .i64 .i64 _ _ Tryd.underlying3) (eqf (part_flat Tryd.underlying3 rfl rfl) (part_flat Tryd.underlying3 rfl rfl) (run_equalIn_int w 9998 3 .i64 .i64 _ _ Tryd.underlying3) (eqf (part_flat Tryd.underlying31 rfl rfl) (part_flat Tryd.underlying31 rfl rfl) (run_equalIn_int w 9998 31 .u64 .u64 _ _ Tryd.underlying31) (eqf (part_flat Tryd.underlying31 rfl rfl) (part_flat Tryd.underlying31 rfl rfl) (run_equalIn_int w 9998 31 .u64 .u64 _ _ Tryd.underlying31) (eqf (part_flat Tryd.underlying2 rfl rfl) (part_flat Tryd.underlying2 rfl rfl) (run_equalIn_int w 9998 2 .i64 .i64 _ _ Tryd.underlying2) (eqf (part_flat Tryd.underlying2 rfl rfl) (part_flat Tryd.underlying2 rfl rfl) (run_equalIn_int w 9998 2 .i64 .i64 _ _ Tryd.underlying2) (eqf (part_flat Tryd.underlying9 rfl rfl) (part_flat Tryd.underlying9 rfl rfl) (eq_str (d := 9998) Tryd.underlying9) (eqf (part_flat Tryd.underlying9 rfl rfl) (part_flat Tryd.underlying9 rfl rfl) (eq_str (d := 9998) Tryd.underlying9) eqn rfl) rfl) rfl) rfl) rfl) rfl) rfl) rfl)
abbrev pP (g : Nat) : Value := .pointer (some ⟨g, 0, none⟩)
abbrev uu2 := Tryd.underlying2
abbrev uu3 := Tryd.underlying3
abbrev uu4 := Tryd.underlying4
abbrev uu5 := Tryd.underlying5
abbrev uu9 := Tryd.underlying9
abbrev uu22 := Tryd.underlying22
abbrev uu24 := Tryd.underlying24
abbrev uu25 := Tryd.underlying25
abbrev uu31 := Tryd.underlying31
abbrev uu33 := Tryd.underlying33
abbrev uu35 := Tryd.underlying35
abbrev uu38 := Tryd.underlying38
abbrev uu41 := Tryd.underlying41
abbrev uu42 := Tryd.underlying42
abbrev uu44 := Tryd.underlying44
abbrev uu48 := Tryd.underlying48
abbrev uu73 := Tryd.underlying73
abbrev uu90 := Tryd.underlying90
abbrev uu91 := Tryd.underlying91
abbrev uu92 := Tryd.underlying92
abbrev uu96 := Tryd.underlying96
abbrev uu97 := Tryd.underlying97
abbrev uu102 := Tryd.underlying102
abbrev uu111 := Tryd.underlying111
abbrev uu119 := Tryd.underlying119
abbrev uu130 := Tryd.underlying130
abbrev uu133 := Tryd.underlying133
def g44 (x : S44) : Prop := (gI .u64) x.f0 ∧ (gI .i64) x.f1 ∧ (gI .i64) x.f2 ∧ gS x.f3 ∧ gF x.f4
set_option maxRecDepth 100000 in
theorem op44 {W : World} : Opens Tryd.prog W 44 k44 g44 := by
  intro H enc held fuel cs x h hw
  obtain ⟨ys, n, _, rfl, hl, hyl, hf⟩ := DataW.trod_struct Tryd.underlying44 h
  rw [ce44] at hl
  match cs, hl with
  | [c0, c1, c2, c3, c4], _ =>
    obtain ⟨a0, h0, q0⟩ := fld Tryd.underlying44 hf hyl hw 0 rfl (o := 0) (c := 1) (t := 31) rfl rfl ce31 (opI Tryd.underlying31)
    cases (show [c0] = [.int .u64 a0] from h0)
    obtain ⟨a1, h1, q1⟩ := fld Tryd.underlying44 hf hyl hw 1 rfl (o := 1) (c := 1) (t := 3) rfl rfl ce3 (opI Tryd.underlying3)
    cases (show [c1] = [.int .i64 a1] from h1)
    obtain ⟨a2, h2, q2⟩ := fld Tryd.underlying44 hf hyl hw 2 rfl (o := 2) (c := 1) (t := 2) rfl rfl ce2 (opI Tryd.underlying2)
    cases (show [c2] = [.int .i64 a2] from h2)
    obtain ⟨a3, h3, q3⟩ := fld Tryd.underlying44 hf hyl hw 3 rfl (o := 3) (c := 1) (t := 9) rfl rfl ce9 (opS Tryd.underlying9)
    cases (show [c3] = [str a3] from h3)
    obtain ⟨a4, h4, q4⟩ := fld Tryd.underlying44 hf hyl hw 4 rfl (o := 4) (c := 1) (t := 42) rfl rfl ce42 (opF Tryd.underlying42)
    cases (show [c4] = [.float .f64 a4] from h4)
    exact ⟨⟨a0, a1, a2, a3, a4⟩, rfl, q0, q1, q2, q3, q4⟩
noncomputable section
set_option linter.unusedSimpArgs false
def page_Sum_b1 (x476 : Int) : Option (Int) :=
  some (ixor .u32 (IntKind.u32.max) x476)
def page_Sum_x1_0 (x560 : Int) : Option (Int) :=
  page_Sum_b1 x560
def page_Sum_l1 (a0 : (List Int)) (x518 : Int) (x519 : Int) : Option ((Int × Int) ⊕ ((Int))) :=
  if (decide (x519 < (a0.length : Int))) = true then ((at_ a0 x519).bind fun x568 => (ltt (IntKind.u32.wrap x568) fun x572 => (ltt (ixor .u32 x518 x572) fun x574 => (ltt (iand .u32 x574 15) fun x576 => ((at_ gl_page_table x576).bind fun x578 => (ltt (ishr .u32 x518 4) fun x581 => (ltt (ixor .u32 x578 x581) fun x583 => (ltt (ishr .u32 x572 4) fun x585 => (ltt (ixor .u32 x583 x585) fun x587 => (ltt (iand .u32 x587 15) fun x589 => ((at_ gl_page_table x589).bind fun x591 => (ltt (ishr .u32 x583 4) fun x594 => (ltt (ixor .u32 x591 x594) fun x596 => (ltt (IntKind.i64.wrap (x519 + 1)) fun x598 => (some (.inl (x596, x598))))))))))))))))) else (some (.inr (x518)))
def page_Sum (a0 : (List Int)) : Option (Int) :=
  (loop (fun s => page_Sum_l1 a0 s.1 s.2) (4294967295, 0)).bind fun t => page_Sum_x1_0 t
def page_number (a0 : (List Int)) : Option (Int) :=
  (at_ a0 0).bind fun x103 => (ltt (IntKind.u32.wrap x103) fun x106 => ((at_ a0 1).bind fun x108 => (ltt (IntKind.u32.wrap x108) fun x111 => (ltt (ishl .u32 x111 8) fun x113 => (ltt (ior .u32 x106 x113) fun x115 => ((at_ a0 2).bind fun x117 => (ltt (IntKind.u32.wrap x117) fun x120 => (ltt (ishl .u32 x120 16) fun x122 => (ltt (ior .u32 x115 x122) fun x124 => ((at_ a0 3).bind fun x126 => (ltt (IntKind.u32.wrap x126) fun x129 => (ltt (ishl .u32 x129 24) fun x131 => (ltt (ior .u32 x124 x131) fun x133 => (some x133))))))))))))))
def slices_Clone_byte_byte (a0 : (List Int)) : Option ((List Int)) :=
  nilsplit (a0).isEmpty (some []) (chk (([] : List Int).length + a0.length ≤ 140737488355328 / 1) (some a0))
def page_Read_j2 (a1 : Int) (l109 : (List Int)) (y121 : (Int)) (b130 : Bool) : Option (Int × (List Int) × Int × Int) :=
  if b130 = true then (some (0, [], 0, 3)) else (ltt (IntKind.i64.wrap y121) fun x134 => (ltt (IntKind.i64.wrap (5 + x134)) fun x136 => ((cut_ l109 0 x136).bind fun l140 => ((cut_ l109 x136 (l109.length : Int)).bind fun l147 => ((page_Sum l140).bind fun y154 => ((page_number l147).bind fun y156 => (if (y154 != y156) = true then (some (0, [], 0, 4)) else ((at_ l109 4).bind fun x161 => ((cut_ l109 5 x136).bind fun l164 => (ltt (IntKind.i64.wrap (a1 + x136)) fun x171 => (ltt (IntKind.i64.wrap (x171 + 4)) fun x173 => ((slices_Clone_byte_byte l164).bind fun y175 => (some (x161, y175, x173, 0))))))))))))))
def page_Read_j1 (a0 : (List Int)) (a1 : Int) (b105 : Bool) : Option (Int × (List Int) × Int × Int) :=
  if b105 = true then (some (0, [], 0, 1)) else ((cut_ a0 a1 (a0.length : Int)).bind fun l109 => (if (decide ((l109.length : Int) < 9)) = true then (some (0, [], 0, 3)) else ((page_number l109).bind fun y121 => (if (decide (1048576 < y121)) = true then (page_Read_j2 a1 l109 y121 true) else (ltt (IntKind.i64.wrap y121) fun x182 => (ltt (IntKind.i64.wrap ((l109.length : Int) - 9)) fun x184 => (page_Read_j2 a1 l109 y121 (decide (x184 < x182)))))))))
def page_Read (a0 : (List Int)) (a1 : Int) : Option (Int × (List Int) × Int × Int) :=
  if (decide (a1 < 0)) = true then (page_Read_j1 a0 a1 true) else (page_Read_j1 a0 a1 (decide ((a0.length : Int) < a1)))
end
set_option maxRecDepth 100000
set_option maxHeartbeats 4000000
theorem F_page_Sum {r : World} {L : List HP} {w : World} {Z : Nat → Prop} {wz : World} (a0 : (List Int)) (A0 : Option Addr) (n0 : Nat) (c0 : Nat) {y : (Int)} (G : page_Sum a0 = some y) (qz : Nat) (hZ : L[qz]? = some (zone Z wz)) (ha0 : RdL L (kI .u8) A0 n0 c0 a0) (hG0 : Imm Z wz (kI .u32) (some ⟨0, 0, none⟩) 16 16 gl_page_table) (X : SH r (L) w) :
  Ret Tryd.prog 50 #[.slice A0 n0 c0] w fun v w' => v = .int .u32 y ∧ SH r (L) w' := by
 refine enter Tryd.func50 rfl Tryd.ntmps50 [(0, .slice A0 n0 c0)] rfl (by simp) ?_
 intro U J Qf hQ hQn
 unfold page_Sum at G
 refine ws fun K100 hK100 => ?_
 refine x_m J rfl fun U J => ?_
 refine wn (hK100 _ _ ?_)
 refine ws fun K101 hK101 => ?_
 refine x_m J rfl fun U J => ?_
 refine wn (hK101 _ _ ?_)
 refine wp_seq_k fun K102 hK102 => ?_
 refine ws fun K103 hK103 => ?_
 refine x_m J rfl fun U J => ?_
 refine x_len' uu24 (X.rdl 0 ha0 rfl).2.1 J (fun U J => ?_) rfl
 refine x_m J rfl fun U J => ?_
 refine wn (hK103 _ _ ?_)
 refine wp_block_k fun Kx104 hKx104 => ?_
 have hb1 : ∀ (x105 : Int), page_Sum_b1 x105 = some y → ∀ (U : Act) (w : World), FR 36 [] U [(3, .int .u32 x105)] → SH r (L) w → Kx104 U w := by
  intro x105 G U w J X
  unfold page_Sum_b1 at G
  refine hKx104 _ _ ?_
  refine hK102 _ _ ?_
  refine ws fun K106 hK106 => ?_
  refine x_m J rfl fun U J => ?_
  refine x_v J (r_compl rfl (J.ev rfl)) rfl fun U J => ?_
  refine x_m J rfl fun U J => ?_
  refine wn (hK106 _ _ ?_)
  refine wp_ret ?_
  cases G
  refine hQ _ _ ?_
  refine lv Tryd.results50 J rfl ?_
  exact ⟨rfl, X⟩
 obtain ⟨t107, hl107, G⟩ := bnd G
 have hx107_0 : ∀ (x107 : Int), (x107) = t107 → ∀ (U : Act) (w : World), FR 36 [] U [(3, .int .u32 x107)] → SH r (L) w → Kx104 U w := by
  intro x107 ht U w J X
  subst ht
  replace G : page_Sum_x1_0 x107 = some y := G
  unfold page_Sum_x1_0 at G
  exact hb1 x107 G U w (J.sub _ rfl) X
 refine wp_loop_fn hl107 (fun s U w => FR 36 [] U [(3, .int .u32 s.1), (6, .slice A0 n0 c0), (7, .int .i64 (a0.length : Int)), (8, .int .i64 s.2)] ∧ SH r (L) w) ⟨J.sub _ rfl, X⟩ ?_
 intro N107 s107 o107 G N107_ T107_ U w hLab
 obtain ⟨x108, x109⟩ := s107
 replace G : page_Sum_l1 a0 x108 x109 = some o107 := G
 unfold page_Sum_l1 at G
 try dsimp only at hLab
 obtain ⟨J, X⟩ := hLab
 refine ws fun K110 hK110 => ?_
 refine x_v J (r_ltI rfl (J.ev rfl) (J.ev rfl)) rfl fun U J => ?_
 refine wn (hK110 _ _ ?_)
 refine wp_seq_k fun K111 hK111 => ?_
 refine c_if J rfl (fun hb112 => ?_) fun hb112 => ?_
 ·replace G := ift hb112 G
  refine wp_skip ?_
  refine hK111 _ _ ?_
  refine wp_seq_k fun K113 hK113 => ?_
  refine wp_block_k fun Kx114 hKx114 => ?_
  refine ws fun K115 hK115 => ?_
  obtain ⟨x116, h117, G⟩ := bnd G
  refine x_ia' uu24 sz5 (X.rdl 0 ha0 rfl) h117 J (fun U J => ?_) rfl
  obtain ⟨cs, hV, hc118⟩ := el (X.rdl 0 ha0 rfl) h117
  obtain rfl := hV
  refine x_ld' uu5 (hc118 0 _ rfl) J (fun U J => ?_) rfl
  refine x_m J rfl fun U J => ?_
  refine wn (hK115 _ _ ?_)
  refine ws fun K119 hK119 => ?_
  refine x_m J rfl fun U J => ?_
  refine x_m J rfl fun U J => ?_
  obtain ⟨x120, h121, G⟩ := ltt_ G
  refine x_v (v := .int .u32 x120) J (rv_i h121 (r_convI uu5 uu48 rfl (J.ev rfl))) rfl fun U J => ?_
  obtain ⟨x122, h123, G⟩ := ltt_ G
  refine x_v (v := .int .u32 x122) J (rv_i h123 (r_xor rfl (J.ev rfl) (J.ev rfl))) rfl fun U J => ?_
  obtain ⟨x124, h125, G⟩ := ltt_ G
  refine x_v (v := .int .u32 x124) J (rv_i h125 (r_and rfl (J.ev rfl) (J.ev rfl))) rfl fun U J => ?_
  obtain ⟨x126, h127, G⟩ := bnd G
  refine x_iaA' uu130 sz48 (X.rdl 0 (hG0.rdl qz hZ) rfl) h127 J (fun U J => ?_) rfl
  obtain ⟨cs, hV, hc128⟩ := el (X.rdl 0 (hG0.rdl qz hZ) rfl) h127
  obtain rfl := hV
  refine x_ld' uu48 (hc128 0 _ rfl) J (fun U J => ?_) rfl
  refine x_m J rfl fun U J => ?_
  obtain ⟨x129, h130, G⟩ := ltt_ G
  refine x_v (v := .int .u32 x129) J (rv_i h130 (r_shr rfl (J.ev rfl) (J.ev rfl) (by decide))) rfl fun U J => ?_
  obtain ⟨x131, h132, G⟩ := ltt_ G
  refine x_v (v := .int .u32 x131) J (rv_i h132 (r_xor rfl (J.ev rfl) (J.ev rfl))) rfl fun U J => ?_
  refine x_m J rfl fun U J => ?_
  refine wn (hK119 _ _ ?_)
  refine wp_reg ?_
  refine x_m J rfl fun U J => ?_
  refine x_m J rfl fun U J => ?_
  refine x_v (v := .int .u32 x120) J (rv_i h121 (r_convI uu5 uu48 rfl (J.ev rfl))) rfl fun U J => ?_
  obtain ⟨x133, h134, G⟩ := ltt_ G
  refine x_v (v := .int .u32 x133) J (rv_i h134 (r_shr rfl (J.ev rfl) (J.ev rfl) (by decide))) rfl fun U J => ?_
  obtain ⟨x135, h136, G⟩ := ltt_ G
  refine x_v (v := .int .u32 x135) J (rv_i h136 (r_xor rfl (J.ev rfl) (J.ev rfl))) rfl fun U J => ?_
  obtain ⟨x137, h138, G⟩ := ltt_ G
  refine x_v (v := .int .u32 x137) J (rv_i h138 (r_and rfl (J.ev rfl) (J.ev rfl))) rfl fun U J => ?_
  obtain ⟨x139, h140, G⟩ := bnd G
  refine x_iaA' uu130 sz48 (X.rdl 0 (hG0.rdl qz hZ) rfl) h140 J (fun U J => ?_) rfl
  obtain ⟨cs, hV, hc141⟩ := el (X.rdl 0 (hG0.rdl qz hZ) rfl) h140
  obtain rfl := hV
  refine x_ld' uu48 (hc141 0 _ rfl) J (fun U J => ?_) rfl
  refine x_m J rfl fun U J => ?_
  obtain ⟨x142, h143, G⟩ := ltt_ G
  refine x_v (v := .int .u32 x142) J (rv_i h143 (r_shr rfl (J.ev rfl) (J.ev rfl) (by decide))) rfl fun U J => ?_
  obtain ⟨x144, h145, G⟩ := ltt_ G
  refine x_v (v := .int .u32 x144) J (rv_i h145 (r_xor rfl (J.ev rfl) (J.ev rfl))) rfl fun U J => ?_
  refine x_m J rfl fun U J => ?_
  refine wpList_nil ?_
  refine hKx114 _ _ ?_
  refine hK113 _ _ ?_
  refine wp_reg ?_
  obtain ⟨x146, h147, G⟩ := ltt_ G
  refine x_v (v := .int .i64 x146) J (rv_i h147 (r_add rfl (J.ev rfl) (J.ev rfl))) rfl fun U J => ?_
  refine x_m J rfl fun U J => ?_
  refine wpList_nil ?_
  cases G
  exact ⟨_, N107_ _ rfl, J.sub _ rfl, X⟩
 replace G := iff' hb112 G
 refine wp_exit ?_
 cases G
 exact hx107_0 x108 (T107_ _ rfl) U w (J.sub _ rfl) X
theorem F_page_number {r : World} {L : List HP} {w : World} (a0 : (List Int)) (A0 : Option Addr) (n0 : Nat) (c0 : Nat) {y : (Int)} (G : page_number a0 = some y) (ha0 : RdL L (kI .u8) A0 n0 c0 a0) (X : SH r (L) w) :
  Ret Tryd.prog 56 #[.slice A0 n0 c0] w fun v w' => v = .int .u32 y ∧ SH r (L) w' := by
 refine enter Tryd.func56 rfl Tryd.ntmps56 [(0, .slice A0 n0 c0)] rfl (by simp) ?_
 intro U J Qf hQ hQn
 unfold page_number at G
 refine ws fun K100 hK100 => ?_
 refine x_m J rfl fun U J => ?_
 refine wn (hK100 _ _ ?_)
 refine wp_seq_k fun K101 hK101 => ?_
 refine wp_draw [0, 1, 3, 7, 0, 16, 48, 112, 240, 511, 0, 1024, 3072, 7168, 15360, 32767, 0, 65536, 196608, 458752, 983040, 2097151, 4194303] [] rfl J X (by kernel_rfl) (by kernel_rfl) (by kernel_rfl) (by kernel_rfl) fun w X => ?_
 obtain ⟨x102, h103, G⟩ := bnd G
 obtain ⟨cs, hV, hc104⟩ := el (X.rdl 0 ha0 rfl) h103
 obtain rfl := hV
 obtain ⟨x105, h106, G⟩ := ltt_ G
 obtain ⟨x107, h108, G⟩ := bnd G
 obtain ⟨cs, hV, hc109⟩ := el (X.rdl 0 ha0 rfl) h108
 obtain rfl := hV
 obtain ⟨x110, h111, G⟩ := ltt_ G
 obtain ⟨x112, h113, G⟩ := ltt_ G
 obtain ⟨x114, h115, G⟩ := ltt_ G
 obtain ⟨x116, h117, G⟩ := bnd G
 obtain ⟨cs, hV, hc118⟩ := el (X.rdl 0 ha0 rfl) h117
 obtain rfl := hV
 obtain ⟨x119, h120, G⟩ := ltt_ G
 obtain ⟨x121, h122, G⟩ := ltt_ G
 obtain ⟨x123, h124, G⟩ := ltt_ G
 obtain ⟨x125, h126, G⟩ := bnd G
 obtain ⟨cs, hV, hc127⟩ := el (X.rdl 0 ha0 rfl) h126
 obtain rfl := hV
 obtain ⟨x128, h129, G⟩ := ltt_ G
 obtain ⟨x130, h131, G⟩ := ltt_ G
 obtain ⟨x132, h133, G⟩ := ltt_ G
 refine ⟨[(0, .slice A0 n0 c0), (1, .pointer (some (ea A0 ((0 : Int).toNat * 1)))), (2, .int .u8 x102), (3, .int .u32 x105), (4, .slice A0 n0 c0), (5, .pointer (some (ea A0 ((1 : Int).toNat * 1)))), (6, .int .u8 x107), (7, .int .u32 x110), (8, .int .u32 x112), (9, .int .u32 x114), (10, .slice A0 n0 c0), (11, .pointer (some (ea A0 ((2 : Int).toNat * 1)))), (12, .int .u8 x116), (13, .int .u32 x119), (14, .int .u32 x121), (15, .int .u32 x123), (16, .slice A0 n0 c0), (17, .pointer (some (ea A0 ((3 : Int).toNat * 1)))), (18, .int .u8 x125), (19, .int .u32 x128), (20, .int .u32 x130), (21, .int .u32 x132), (22, .int .u32 x132)], ?_⟩
 refine dEnd [0, 1, 2, 3, 4, 5, 6, 7, 8, 9, 10, 11, 12, 13, 14, 15, 16, 17, 18, 19, 20, 21, 22] (by kernel_rfl) ⟨pm rfl, pt [(3, .slice A0 n0 c0)] rfl (fun U J => y_ia uu24 sz5 (X.rdl 0 ha0 rfl) h103 J rfl rfl rfl), pt [(4, .pointer (some (ea A0 ((0 : Int).toNat * 1))))] rfl (fun U J => y_ld uu5 (hc104 0 _ rfl) J rfl rfl rfl), pt [(5, .int .u8 x102)] rfl (fun U J => (rv_i h106 (r_convI uu5 uu48 rfl (J.ev rfl)) : RunV _ _ _ _ (.int .u32 x105))), pm rfl, pt [(7, .slice A0 n0 c0)] rfl (fun U J => y_ia uu24 sz5 (X.rdl 0 ha0 rfl) h108 J rfl rfl rfl), pt [(8, .pointer (some (ea A0 ((1 : Int).toNat * 1))))] rfl (fun U J => y_ld uu5 (hc109 0 _ rfl) J rfl rfl rfl), pt [(9, .int .u8 x107)] rfl (fun U J => (rv_i h111 (r_convI uu5 uu48 rfl (J.ev rfl)) : RunV _ _ _ _ (.int .u32 x110))), pt [(10, .int .u32 x110)] rfl (fun U J => (rv_i h113 (r_shl rfl (J.ev rfl) (J.ev rfl) (by decide)) : RunV _ _ _ _ (.int .u32 x112))), pt [(6, .int .u32 x105), (11, .int .u32 x112)] rfl (fun U J => (rv_i h115 (r_or rfl (J.ev rfl) (J.ev rfl)) : RunV _ _ _ _ (.int .u32 x114))), pm rfl, pt [(13, .slice A0 n0 c0)] rfl (fun U J => y_ia uu24 sz5 (X.rdl 0 ha0 rfl) h117 J rfl rfl rfl), pt [(14, .pointer (some (ea A0 ((2 : Int).toNat * 1))))] rfl (fun U J => y_ld uu5 (hc118 0 _ rfl) J rfl rfl rfl), pt [(15, .int .u8 x116)] rfl (fun U J => (rv_i h120 (r_convI uu5 uu48 rfl (J.ev rfl)) : RunV _ _ _ _ (.int .u32 x119))), pt [(16, .int .u32 x119)] rfl (fun U J => (rv_i h122 (r_shl rfl (J.ev rfl) (J.ev rfl) (by decide)) : RunV _ _ _ _ (.int .u32 x121))), pt [(12, .int .u32 x114), (17, .int .u32 x121)] rfl (fun U J => (rv_i h124 (r_or rfl (J.ev rfl) (J.ev rfl)) : RunV _ _ _ _ (.int .u32 x123))), pm rfl, pt [(19, .slice A0 n0 c0)] rfl (fun U J => y_ia uu24 sz5 (X.rdl 0 ha0 rfl) h126 J rfl rfl rfl), pt [(20, .pointer (some (ea A0 ((3 : Int).toNat * 1))))] rfl (fun U J => y_ld uu5 (hc127 0 _ rfl) J rfl rfl rfl), pt [(21, .int .u8 x125)] rfl (fun U J => (rv_i h129 (r_convI uu5 uu48 rfl (J.ev rfl)) : RunV _ _ _ _ (.int .u32 x128))), pt [(22, .int .u32 x128)] rfl (fun U J => (rv_i h131 (r_shl rfl (J.ev rfl) (J.ev rfl) (by decide)) : RunV _ _ _ _ (.int .u32 x130))), pt [(18, .int .u32 x123), (23, .int .u32 x130)] rfl (fun U J => (rv_i h133 (r_or rfl (J.ev rfl) (J.ev rfl)) : RunV _ _ _ _ (.int .u32 x132))), pm rfl, trivial⟩ ⟨by kernel_rfl, by kernel_rfl⟩ [(2, .int .u32 x132)] rfl (fun U J => ?_)
 refine hK101 _ _ ?_
 refine wp_ret ?_
 cases G
 refine hQ _ _ ?_
 refine lv Tryd.results56 J rfl ?_
 exact ⟨rfl, X⟩
theorem F_slices_Clone_byte_byte {r : World} {L : List HP} {w : World} (a0 : (List Int)) (A0 : Option Addr) (n0 : Nat) (c0 : Nat) {y : ((List Int))} (G : slices_Clone_byte_byte a0 = some y) (ha0 : RdL L (kI .u8) A0 n0 c0 a0) (X : SH r (L) w) :
  Ret Tryd.prog 38 #[.slice A0 n0 c0] w fun v w' => ∃ (B0 : Option Addr) (m0 : Nat) (d0 : Nat), v = .slice B0 m0 d0 ∧ SH r (own (kI .u8) 5 B0 m0 d0 y :: L) w' := by
 refine enter Tryd.func38 rfl Tryd.ntmps38 [(0, .slice A0 n0 c0)] rfl (by simp) ?_
 intro U J Qf hQ hQn
 unfold slices_Clone_byte_byte at G
 refine ws fun K100 hK100 => ?_
 refine x_m J rfl fun U J => ?_
 refine wn (hK100 _ _ ?_)
 refine wp_seq_k fun K101 hK101 => ?_
 refine ws fun K102 hK102 => ?_
 refine x_m J rfl fun U J => ?_
 rcases A0 with _ | ad104
 ·replace G := nil_l (RdL.none_nil ha0 (X.sfx 0)) G
  refine x_v (v := .bool true) J (r_eqNilS (p := none) uu24 rfl (J.ev rfl) (J.ev rfl)) rfl fun U J => ?_
  refine wn (hK102 _ _ ?_)
  refine c_t (b := true) rfl J ?_ rfl
  refine ws fun K103 hK103 => ?_
  refine x_m J rfl fun U J => ?_
  refine wn (hK103 _ _ ?_)
  refine wp_ret ?_
  replace X := SH.nil_own (d := (kI .u8)) (e := 5) X
  cases G
  refine hQ _ _ ?_
  refine lv Tryd.results38 J rfl ?_
  exact ⟨none, 0, 0, rfl, X⟩
 replace G := nil_r G
 refine x_v (v := .bool false) J (r_eqNilS (p := some ad104) uu24 rfl (J.ev rfl) (J.ev rfl)) rfl fun U J => ?_
 refine wn (hK102 _ _ ?_)
 refine c_f (b := false) rfl J ?_ rfl
 refine wp_skip ?_
 refine hK101 _ _ ?_
 refine ws fun K104 hK104 => ?_
 refine x_bsl' (d := (kI .u8)) (e := 5) (ps := #[]) (cells := []) (xs := []) (fun w => by kernel_rfl) rfl rfl J X (fun g105 U w X J => ?_) rfl
 refine x_m J rfl fun U J => ?_
 obtain ⟨h106, G⟩ := chk_some G
 have hr := X.rdl 1 ha0 rfl
 refine x_app' 0 inf5 uu24 J X hr.1 hr.2.1 h106 rfl (fun A107 n108 c109 U w X J => ?_) rfl
 rw [List.nil_append] at X
 refine x_m J rfl fun U J => ?_
 refine wn (hK104 _ _ ?_)
 refine wp_ret ?_
 cases G
 refine hQ _ _ ?_
 refine lv Tryd.results38 J rfl ?_
 exact ⟨A107, n108, c109, rfl, X⟩
theorem F_page_Read {r : World} {L : List HP} {w : World} {Z : Nat → Prop} {wz : World} (a0 : (List Int)) (a1 : Int) (A0 : Option Addr) (n0 : Nat) (c0 : Nat) {y : (Int × (List Int) × Int × Int)} (G : page_Read a0 a1 = some y) (qz : Nat) (hZ : L[qz]? = some (zone Z wz)) (ha0 : Imm Z wz (kI .u8) A0 n0 c0 a0) (hG0 : Imm Z wz (kI .u32) (some ⟨0, 0, none⟩) 16 16 gl_page_table) (X : SH r (L) w) :
  Ret Tryd.prog 37 #[.slice A0 n0 c0, .int .i64 a1] w fun v w' => ∃ (B1 : Option Addr) (m1 : Nat) (d1 : Nat), v = .tuple #[(.int .u8 y.1), (.slice B1 m1 d1), (.int .i64 y.2.2.1), (.int .i64 y.2.2.2)] ∧ SH r (own (kI .u8) 5 B1 m1 d1 y.2.1 :: L) w' := by
 refine enter Tryd.func37 rfl Tryd.ntmps37 [(0, .slice A0 n0 c0), (1, .int .i64 a1)] rfl (by simp) ?_
 intro U J Qf hQ hQn
 unfold page_Read at G
 refine ws fun K100 hK100 => ?_
 refine x_m J rfl fun U J => ?_
 refine x_m J rfl fun U J => ?_
 refine x_m J rfl fun U J => ?_
 refine x_m J rfl fun U J => ?_
 refine wn (hK100 _ _ ?_)
 refine wp_seq_k fun K101 hK101 => ?_
 refine wp_seq_k fun K102 hK102 => ?_
 have hj1 : ∀ (b103 : Bool), page_Read_j1 a0 a1 b103 = some y → ∀ (U : Act) (w : World), FR 60 [] U [(0, .slice A0 n0 c0), (1, .int .i64 a1), (18, .bool b103)] → SH r (L) w → K102 U w := by
  intro b103 G U w J X
  unfold page_Read_j1 at G
  refine hK102 _ _ ?_
  refine c_if J rfl (fun hb104 => ?_) fun hb104 => ?_
  ·replace G := ift hb104 G
   refine ws fun K105 hK105 => ?_
   refine x_m J rfl fun U J => ?_
   refine x_m J rfl fun U J => ?_
   refine x_m J rfl fun U J => ?_
   refine x_m J rfl fun U J => ?_
   refine wn (hK105 _ _ ?_)
   refine wp_ret ?_
   replace X := SH.nil_own (d := (kI .u8)) (e := 5) X
   cases G
   refine hQ _ _ ?_
   refine lv4 Tryd.results37 J rfl rfl rfl rfl ?_
   exact ⟨none, 0, 0, rfl, X⟩
  replace G := iff' hb104 G
  refine wp_skip ?_
  refine hK101 _ _ ?_
  refine ws fun K106 hK106 => ?_
  refine x_m J rfl fun U J => ?_
  refine x_m J rfl fun U J => ?_
  obtain ⟨l107, h108, G⟩ := bnd G
  obtain ⟨A109, n110, c111, e112, h113⟩ := imm_lc ha0 h108
  refine x_v (v := .slice A109 n110 c111) J (rv_e e112 (r_slice_l uu24 sz5 rfl (J.ev rfl) (J.ev rfl) (cutq (X.rdl 0 (ha0.rdl qz hZ) rfl) h108).1 (cutq (X.rdl 0 (ha0.rdl qz hZ) rfl) h108).2.2.2.2.2)) rfl fun U J => ?_
  refine x_m J rfl fun U J => ?_
  refine wn (hK106 _ _ ?_)
  refine wp_seq_k fun K114 hK114 => ?_
  refine ws fun K115 hK115 => ?_
  refine x_m J rfl fun U J => ?_
  refine x_len' uu24 (X.rdl 0 (h113.rdl qz hZ) rfl).2.1 J (fun U J => ?_) rfl
  refine x_v J (r_ltI rfl (J.ev rfl) (J.ev rfl)) rfl fun U J => ?_
  refine wn (hK115 _ _ ?_)
  refine c_if J rfl (fun hb116 => ?_) fun hb116 => ?_
  ·replace G := ift hb116 G
   refine ws fun K117 hK117 => ?_
   refine x_m J rfl fun U J => ?_
   refine x_m J rfl fun U J => ?_
   refine x_m J rfl fun U J => ?_
   refine x_m J rfl fun U J => ?_
   refine wn (hK117 _ _ ?_)
   refine wp_ret ?_
   replace X := SH.nil_own (d := (kI .u8)) (e := 5) X
   cases G
   refine hQ _ _ ?_
   refine lv4 Tryd.results37 J rfl rfl rfl rfl ?_
   exact ⟨none, 0, 0, rfl, X⟩
  replace G := iff' hb116 G
  refine wp_skip ?_
  refine hK114 _ _ ?_
  refine ws fun K118 hK118 => ?_
  refine x_m J rfl fun U J => ?_
  obtain ⟨y119, h120, G⟩ := bnd G
  refine x_call' en56 J (F_page_number (L := L) l107 A109 n110 c111 h120 (RdL.sfx 0 rfl (h113.rdl qz hZ)) X) (fun v U w hR J => ?_) rfl
  obtain ⟨rfl, X⟩ := hR
  refine x_m J rfl fun U J => ?_
  refine wn (hK118 _ _ ?_)
  refine wp_seq_k fun K121 hK121 => ?_
  refine wp_seq_k fun K122 hK122 => ?_
  have hj2 : ∀ (b123 : Bool), page_Read_j2 a1 l107 y119 b123 = some y → ∀ (U : Act) (w : World), FR 60 [] U [(1, .int .i64 a1), (8, .slice A109 n110 c111), (9, .int .u32 y119), (36, .bool b123)] → SH r (L) w → K122 U w := by
   intro b123 G U w J X
   unfold page_Read_j2 at G
   refine hK122 _ _ ?_
   refine c_if J rfl (fun hb124 => ?_) fun hb124 => ?_
   ·replace G := ift hb124 G
    refine ws fun K125 hK125 => ?_
    refine x_m J rfl fun U J => ?_
    refine x_m J rfl fun U J => ?_
    refine x_m J rfl fun U J => ?_
    refine x_m J rfl fun U J => ?_
    refine wn (hK125 _ _ ?_)
    refine wp_ret ?_
    replace X := SH.nil_own (d := (kI .u8)) (e := 5) X
    cases G
    refine hQ _ _ ?_
    refine lv4 Tryd.results37 J rfl rfl rfl rfl ?_
    exact ⟨none, 0, 0, rfl, X⟩
   replace G := iff' hb124 G
   refine wp_skip ?_
   refine hK121 _ _ ?_
   refine ws fun K126 hK126 => ?_
   refine x_m J rfl fun U J => ?_
   obtain ⟨x127, h128, G⟩ := ltt_ G
   refine x_v (v := .int .i64 x127) J (rv_i h128 (r_convI uu48 uu3 rfl (J.ev rfl))) rfl fun U J => ?_
   obtain ⟨x129, h130, G⟩ := ltt_ G
   refine x_v (v := .int .i64 x129) J (rv_i h130 (r_add rfl (J.ev rfl) (J.ev rfl))) rfl fun U J => ?_
   refine x_m J rfl fun U J => ?_
   refine wn (hK126 _ _ ?_)
   refine wp_seq_k fun K131 hK131 => ?_
   refine wp_seq_k fun K132 hK132 => ?_
   refine wp_draw [0, 0, 3, 7, 0, 0, 48, 127, 255] [3, 7] rfl J X (by kernel_rfl) (by kernel_rfl) (by kernel_rfl) (by kernel_rfl) fun w X => ?_
   obtain ⟨l133, h134, G⟩ := bnd G
   obtain ⟨A135, n136, c137, e138, h139⟩ := imm_hc h113 h134
   obtain ⟨l140, h141, G⟩ := bnd G
   obtain ⟨A142, n143, c144, e145, h146⟩ := imm_lc h113 h141
   refine ⟨[(0, .slice A109 n110 c111), (1, .int .i64 x129), (2, .slice A135 n136 c137), (4, .slice A109 n110 c111), (5, .int .i64 x129), (6, .slice A142 n143 c144)], ?_⟩
   refine dF [0, 1, 2, 4, 5, 6] [3] (by kernel_rfl) ⟨pm rfl, pm rfl, pt [(40, .slice A109 n110 c111), (41, .int .i64 x129)] rfl (fun U J => (rv_e e138 (r_slice_h uu24 sz5 rfl (J.ev rfl) (J.ev rfl) (cutq (X.rdl 0 (h113.rdl qz hZ) rfl) h134).2.2.2.2.1 (cutq (X.rdl 0 (h113.rdl qz hZ) rfl) h134).2.2.1) : RunV _ _ _ _ (.slice A135 n136 c137))), pm rfl, pm rfl, pt [(44, .slice A109 n110 c111), (45, .int .i64 x129)] rfl (fun U J => (rv_e e145 (r_slice_l uu24 sz5 rfl (J.ev rfl) (J.ev rfl) (cutq (X.rdl 0 (h113.rdl qz hZ) rfl) h141).1 (cutq (X.rdl 0 (h113.rdl qz hZ) rfl) h141).2.2.2.2.2) : RunV _ _ _ _ (.slice A142 n143 c144))), trivial⟩ ⟨et [(42, .slice A135 n136 c137)] rfl (fun U J K hK => ?_), trivial⟩
   obtain ⟨y147, h148, G⟩ := bnd G
   refine z_call' en50 J (F_page_Sum (L := L) l133 A135 n136 c137 h148 (qz + 0) hZ (RdL.sfx 0 rfl (h139.rdl qz hZ)) hG0 X) (fun v w hR => ?_) rfl
   obtain ⟨rfl, X⟩ := hR
   refine hK _ [] _ rfl ?_
   refine dF [4, 5, 6] [7] (by kernel_rfl) ⟨pm rfl, pm rfl, pt [(44, .slice A109 n110 c111), (45, .int .i64 x129)] rfl (fun U J => (rv_e e145 (r_slice_l uu24 sz5 rfl (J.ev rfl) (J.ev rfl) (cutq (X.rdl 0 (h113.rdl qz hZ) rfl) h141).1 (cutq (X.rdl 0 (h113.rdl qz hZ) rfl) h141).2.2.2.2.2) : RunV _ _ _ _ (.slice A142 n143 c144))), trivial⟩ ⟨et [(46, .slice A142 n143 c144)] rfl (fun U J K hK => ?_), trivial⟩
   obtain ⟨y149, h150, G⟩ := bnd G
   refine z_call' en56 J (F_page_number (L := L) l140 A142 n143 c144 h150 (RdL.sfx 0 rfl (h146.rdl qz hZ)) X) (fun v w hR => ?_) rfl
   obtain ⟨rfl, X⟩ := hR
   refine hK _ [(8, .bool (y147 != y149))] _ rfl ?_
   refine dEnd [8] (by kernel_rfl) ⟨pt [(43, .int .u32 y147), (47, .int .u32 y149)] rfl (fun U J => r_neI rfl (J.ev rfl) (J.ev rfl)), trivial⟩ ⟨by kernel_rfl, by kernel_rfl⟩ [(1, .int .i64 a1), (8, .slice A109 n110 c111), (10, .int .i64 x129), (48, .bool (y147 != y149))] rfl (fun U J => ?_)
   refine hK132 _ _ ?_
   refine c_if J rfl (fun hb151 => ?_) fun hb151 => ?_
   ·replace G := ift hb151 G
    refine ws fun K152 hK152 => ?_
    refine x_m J rfl fun U J => ?_
    refine x_m J rfl fun U J => ?_
    refine x_m J rfl fun U J => ?_
    refine x_m J rfl fun U J => ?_
    refine wn (hK152 _ _ ?_)
    refine wp_ret ?_
    replace X := SH.nil_own (d := (kI .u8)) (e := 5) X
    cases G
    refine hQ _ _ ?_
    refine lv4 Tryd.results37 J rfl rfl rfl rfl ?_
    exact ⟨none, 0, 0, rfl, X⟩
   replace G := iff' hb151 G
   refine wp_skip ?_
   refine hK131 _ _ ?_
   refine wp_seq_k fun K153 hK153 => ?_
   refine wp_draw [0, 1, 3, 0, 0, 24, 56, 0, 0, 384, 896, 127, 2175, 8191, 16383] [6] rfl J X (by kernel_rfl) (by kernel_rfl) (by kernel_rfl) (by kernel_rfl) fun w X => ?_
   obtain ⟨x154, h155, G⟩ := bnd G
   obtain ⟨cs, hV, hc156⟩ := el (X.rdl 0 (h113.rdl qz hZ) rfl) h155
   obtain rfl := hV
   obtain ⟨l157, h158, G⟩ := bnd G
   obtain ⟨A159, n160, c161, e162, h163⟩ := imm_lhc h113 h158
   obtain ⟨x164, h165, G⟩ := ltt_ G
   obtain ⟨x166, h167, G⟩ := ltt_ G
   refine ⟨[(0, .slice A109 n110 c111), (1, .pointer (some (ea A109 ((4 : Int).toNat * 1)))), (2, .int .u8 x154), (3, .slice A109 n110 c111), (4, .int .i64 x129), (5, .slice A159 n160 c161), (7, .int .i64 a1), (8, .int .i64 x129), (9, .int .i64 x164), (10, .int .i64 x166)], ?_⟩
   refine dF [0, 1, 2, 3, 4, 5, 7, 8, 9, 10] [6] (by kernel_rfl) ⟨pm rfl, pt [(49, .slice A109 n110 c111)] rfl (fun U J => y_ia uu24 sz5 (X.rdl 0 (h113.rdl qz hZ) rfl) h155 J rfl rfl rfl), pt [(50, .pointer (some (ea A109 ((4 : Int).toNat * 1))))] rfl (fun U J => y_ld uu5 (hc156 0 _ rfl) J rfl rfl rfl), pm rfl, pm rfl, pt [(52, .slice A109 n110 c111), (53, .int .i64 x129)] rfl (fun U J => (rv_e e162 (r_slice_lh uu24 sz5 rfl (J.ev rfl) (J.ev rfl) (J.ev rfl) (cutq (X.rdl 0 (h113.rdl qz hZ) rfl) h158).1 (cutq (X.rdl 0 (h113.rdl qz hZ) rfl) h158).2.1 (cutq (X.rdl 0 (h113.rdl qz hZ) rfl) h158).2.2.1) : RunV _ _ _ _ (.slice A159 n160 c161))), pm rfl, pm rfl, pt [(56, .int .i64 a1), (57, .int .i64 x129)] rfl (fun U J => (rv_i h165 (r_add rfl (J.ev rfl) (J.ev rfl)) : RunV _ _ _ _ (.int .i64 x164))), pt [(58, .int .i64 x164)] rfl (fun U J => (rv_i h167 (r_add rfl (J.ev rfl) (J.ev rfl)) : RunV _ _ _ _ (.int .i64 x166))), trivial⟩ ⟨et [(54, .slice A159 n160 c161)] rfl (fun U J K hK => ?_), trivial⟩
   obtain ⟨y168, h169, G⟩ := bnd G
   refine z_call' en38 J (F_slices_Clone_byte_byte (L := L) l157 A159 n160 c161 h169 (RdL.sfx 0 rfl (h163.rdl qz hZ)) X) (fun v w hR => ?_) rfl
   obtain ⟨B170, m171, d172, rfl, X⟩ := hR
   obtain ⟨cs, hV, hc173⟩ := el (X.rdl 1 (h113.rdl qz hZ) rfl) h155
   obtain rfl := hV
   refine hK _ [(11, .int .u8 x154), (12, .slice B170 m171 d172), (13, .int .i64 x166), (14, .int .i64 0)] _ rfl ?_
   refine dEnd [0, 1, 2, 7, 8, 9, 10, 11, 12, 13, 14] (by kernel_rfl) ⟨pm rfl, pt [(49, .slice A109 n110 c111)] rfl (fun U J => y_ia uu24 sz5 (X.rdl 1 (h113.rdl qz hZ) rfl) h155 J rfl rfl rfl), pt [(50, .pointer (some (ea A109 ((4 : Int).toNat * 1))))] rfl (fun U J => y_ld uu5 (hc173 0 _ rfl) J rfl rfl rfl), pm rfl, pm rfl, pt [(56, .int .i64 a1), (57, .int .i64 x129)] rfl (fun U J => (rv_i h165 (r_add rfl (J.ev rfl) (J.ev rfl)) : RunV _ _ _ _ (.int .i64 x164))), pt [(58, .int .i64 x164)] rfl (fun U J => (rv_i h167 (r_add rfl (J.ev rfl) (J.ev rfl)) : RunV _ _ _ _ (.int .i64 x166))), pm rfl, pm rfl, pm rfl, pm rfl, trivial⟩ ⟨by kernel_rfl, by kernel_rfl⟩ [(4, .int .u8 x154), (5, .slice B170 m171 d172), (6, .int .i64 x166), (7, .int .i64 0)] rfl (fun U J => ?_)
   refine hK153 _ _ ?_
   refine wp_ret ?_
   cases G
   refine hQ _ _ ?_
   refine lv4 Tryd.results37 J rfl rfl rfl rfl ?_
   exact ⟨B170, m171, d172, rfl, X⟩
  refine wp_reg ?_
  refine x_m J rfl fun U J => ?_
  refine x_v J (r_gtI rfl (J.ev rfl) (J.ev rfl)) rfl fun U J => ?_
  refine x_m J rfl fun U J => ?_
  refine bcase (b := decide (1048576 < y119)) (fun hb174 => ?_) fun hb174 => ?_
  ·replace G := ift hb174 G
   refine xO 6 hb174 J rfl fun U J => ?_
   refine x_pickt' hb174 J (fun U J => ?_) rfl
   refine wpList_nil ?_
   exact hj2 true G U w (J.sub _ rfl) X
  replace G := iff' hb174 G
  refine x_on' hb174 J ?_ rfl
  refine x_m J rfl fun U J => ?_
  refine x_on' hb174 J ?_ rfl
  obtain ⟨x175, h176, G⟩ := ltt_ G
  refine x_v (v := .int .i64 x175) J (rv_i h176 (r_convI uu48 uu3 rfl (J.ev rfl))) rfl fun U J => ?_
  refine x_on' hb174 J ?_ rfl
  refine x_m J rfl fun U J => ?_
  refine x_on' hb174 J ?_ rfl
  refine x_len' uu24 (X.rdl 0 (h113.rdl qz hZ) rfl).2.1 J (fun U J => ?_) rfl
  refine x_on' hb174 J ?_ rfl
  obtain ⟨x177, h178, G⟩ := ltt_ G
  refine x_v (v := .int .i64 x177) J (rv_i h178 (r_sub rfl (J.ev rfl) (J.ev rfl))) rfl fun U J => ?_
  refine x_on' hb174 J ?_ rfl
  refine x_v J (r_gtI rfl (J.ev rfl) (J.ev rfl)) rfl fun U J => ?_
  refine x_pickf' hb174 J (fun U J => ?_) rfl
  refine wpList_nil ?_
  exact hj2 (decide (x177 < x175)) G U w (J.sub _ rfl) X
 refine wp_reg ?_
 refine x_m J rfl fun U J => ?_
 refine x_v J (r_ltI rfl (J.ev rfl) (J.ev rfl)) rfl fun U J => ?_
 refine x_m J rfl fun U J => ?_
 refine bcase (b := decide (a1 < 0)) (fun hb179 => ?_) fun hb179 => ?_
 ·replace G := ift hb179 G
  refine xO 4 hb179 J rfl fun U J => ?_
  refine x_pickt' hb179 J (fun U J => ?_) rfl
  refine wpList_nil ?_
  exact hj1 true G U w (J.sub _ rfl) X
 replace G := iff' hb179 G
 refine x_on' hb179 J ?_ rfl
 refine x_m J rfl fun U J => ?_
 refine x_on' hb179 J ?_ rfl
 refine x_m J rfl fun U J => ?_
 refine x_on' hb179 J ?_ rfl
 refine x_len' uu24 (X.rdl 0 (ha0.rdl qz hZ) rfl).2.1 J (fun U J => ?_) rfl
 refine x_on' hb179 J ?_ rfl
 refine x_v J (r_gtI rfl (J.ev rfl) (J.ev rfl)) rfl fun U J => ?_
 refine x_pickf' hb179 J (fun U J => ?_) rfl
 refine wpList_nil ?_
 exact hj1 (decide ((a0.length : Int) < a1)) G U w (J.sub _ rfl) X
noncomputable section
set_option linter.unusedSimpArgs false
def page_four (a0 : Int) : Option ((List Int)) :=
  ltt (IntKind.u8.wrap a0) fun x103 => (ltt (ishr .u32 a0 8) fun x105 => (ltt (IntKind.u8.wrap x105) fun x107 => (ltt (ishr .u32 a0 16) fun x109 => (ltt (IntKind.u8.wrap x109) fun x111 => (ltt (ishr .u32 a0 24) fun x113 => (ltt (IntKind.u8.wrap x113) fun x115 => (some [x103, x107, x111, x115])))))))
def page_Lay (a0 : (List Int)) (a1 : Int) (a2 : (List Int)) : Option ((List Int)) :=
  ltt (IntKind.u32.wrap (a2.length : Int)) fun x103 => ((page_four x103).bind fun y105 => (chk (y105.length + [a1].length ≤ 140737488355328 / 1) (chk ((y105 ++ [a1]).length + a2.length ≤ 140737488355328 / 1) (chk (a0.length + ((y105 ++ [a1]) ++ a2).length ≤ 140737488355328 / 1) ((page_Sum ((y105 ++ [a1]) ++ a2)).bind fun y124 => ((page_four y124).bind fun y126 => (chk ((a0 ++ ((y105 ++ [a1]) ++ a2)).length + y126.length ≤ 140737488355328 / 1) (some ((a0 ++ ((y105 ++ [a1]) ++ a2)) ++ y126)))))))))
end
theorem F_page_four {r : World} {L : List HP} {w : World} (a0 : Int) {y : ((List Int))} (G : page_four a0 = some y) (X : SH r (L) w) :
  Ret Tryd.prog 49 #[.int .u32 a0] w fun v w' => ∃ (B0 : Option Addr) (m0 : Nat) (d0 : Nat), v = .slice B0 m0 d0 ∧ SH r (own (kI .u8) 5 B0 m0 d0 y :: L) w' := by
 refine enter Tryd.func49 rfl Tryd.ntmps49 [(0, .int .u32 a0)] rfl (by simp) ?_
 intro U J Qf hQ hQn
 unfold page_four at G
 refine ws fun K100 hK100 => ?_
 refine x_m J rfl fun U J => ?_
 refine wn (hK100 _ _ ?_)
 refine ws fun K101 hK101 => ?_
 refine x_m J rfl fun U J => ?_
 obtain ⟨x102, h103, G⟩ := ltt_ G
 refine x_v (v := .int .u8 x102) J (rv_i h103 (r_convI uu48 uu5 rfl (J.ev rfl))) rfl fun U J => ?_
 refine x_m J rfl fun U J => ?_
 obtain ⟨x104, h105, G⟩ := ltt_ G
 refine x_v (v := .int .u32 x104) J (rv_i h105 (r_shr rfl (J.ev rfl) (J.ev rfl) (by decide))) rfl fun U J => ?_
 obtain ⟨x106, h107, G⟩ := ltt_ G
 refine x_v (v := .int .u8 x106) J (rv_i h107 (r_convI uu48 uu5 rfl (J.ev rfl))) rfl fun U J => ?_
 refine x_m J rfl fun U J => ?_
 obtain ⟨x108, h109, G⟩ := ltt_ G
 refine x_v (v := .int .u32 x108) J (rv_i h109 (r_shr rfl (J.ev rfl) (J.ev rfl) (by decide))) rfl fun U J => ?_
 obtain ⟨x110, h111, G⟩ := ltt_ G
 refine x_v (v := .int .u8 x110) J (rv_i h111 (r_convI uu48 uu5 rfl (J.ev rfl))) rfl fun U J => ?_
 refine x_m J rfl fun U J => ?_
 obtain ⟨x112, h113, G⟩ := ltt_ G
 refine x_v (v := .int .u32 x112) J (rv_i h113 (r_shr rfl (J.ev rfl) (J.ev rfl) (by decide))) rfl fun U J => ?_
 obtain ⟨x114, h115, G⟩ := ltt_ G
 refine x_v (v := .int .u8 x114) J (rv_i h115 (r_convI uu48 uu5 rfl (J.ev rfl))) rfl fun U J => ?_
 refine x_bsl' (d := (kI .u8)) (e := 5) (ps := #[(0, .int .u8 x102), (1, .int .u8 x106), (2, .int .u8 x110), (3, .int .u8 x114)]) (cells := [.int .u8 x102, .int .u8 x106, .int .u8 x110, .int .u8 x114]) (xs := [x102, x106, x110, x114]) (fun w => by kernel_rfl) rfl ⟨[.int .u8 x102], _, rfl, rfl, ⟨[.int .u8 x106], _, rfl, rfl, ⟨[.int .u8 x110], _, rfl, rfl, ⟨[.int .u8 x114], _, rfl, rfl, rfl⟩⟩⟩⟩ J X (fun g116 U w X J => ?_) rfl
 refine x_m J rfl fun U J => ?_
 refine wn (hK101 _ _ ?_)
 refine wp_ret ?_
 cases G
 refine hQ _ _ ?_
 refine lv Tryd.results49 J rfl ?_
 exact ⟨some ⟨g116, 0, none⟩, 4, 4, rfl, X⟩
theorem F_page_Lay {r : World} {L : List HP} {w : World} {Z : Nat → Prop} {wz : World} (a0 : (List Int)) (a1 : Int) (a2 : (List Int)) (A0 : Option Addr) (n0 : Nat) (c0 : Nat) (A2 : Option Addr) (n2 : Nat) (c2 : Nat) {y : ((List Int))} (G : page_Lay a0 a1 a2 = some y) (qz : Nat) (hZ : L[qz]? = some (zone Z wz)) (ha2 : RdL L (kI .u8) A2 n2 c2 a2) (hG0 : Imm Z wz (kI .u32) (some ⟨0, 0, none⟩) 16 16 gl_page_table) (X : SH r (own (kI .u8) 5 A0 n0 c0 a0 :: L) w) :
  Ret Tryd.prog 30 #[.slice A0 n0 c0, .int .u8 a1, .slice A2 n2 c2] w fun v w' => ∃ (B0 : Option Addr) (m0 : Nat) (d0 : Nat), v = .slice B0 m0 d0 ∧ SH r (own (kI .u8) 5 B0 m0 d0 y :: L) w' := by
 refine enter Tryd.func30 rfl Tryd.ntmps30 [(0, .slice A0 n0 c0), (1, .int .u8 a1), (2, .slice A2 n2 c2)] rfl (by simp) ?_
 intro U J Qf hQ hQn
 unfold page_Lay at G
 refine ws fun K100 hK100 => ?_
 refine x_m J rfl fun U J => ?_
 refine wn (hK100 _ _ ?_)
 refine ws fun K101 hK101 => ?_
 refine x_m J rfl fun U J => ?_
 refine x_len' uu24 (X.rdl 1 ha2 rfl).2.1 J (fun U J => ?_) rfl
 obtain ⟨x102, h103, G⟩ := ltt_ G
 refine x_v (v := .int .u32 x102) J (rv_i h103 (r_convI uu3 uu48 rfl (J.ev rfl))) rfl fun U J => ?_
 obtain ⟨y104, h105, G⟩ := bnd G
 refine x_call' en49 J (F_page_four (L := own (kI .u8) 5 A0 n0 c0 a0 :: L) x102 h105 X) (fun v U w hR J => ?_) rfl
 obtain ⟨B106, m107, d108, rfl, X⟩ := hR
 refine x_m J rfl fun U J => ?_
 refine x_bsl' (d := (kI .u8)) (e := 5) (ps := #[(0, .int .u8 a1)]) (cells := [.int .u8 a1]) (xs := [a1]) (fun w => by kernel_rfl) rfl ⟨[.int .u8 a1], _, rfl, rfl, rfl⟩ J X (fun g109 U w X J => ?_) rfl
 obtain ⟨h110, G⟩ := chk_some G
 have hr := X.rd 0 rfl
 refine x_app' 1 inf5 uu24 J X hr.1 hr.2.1 h110 rfl (fun A111 n112 c113 U w X J => ?_) rfl
 refine x_m J rfl fun U J => ?_
 obtain ⟨h114, G⟩ := chk_some G
 have hr := X.rdl 3 ha2 rfl
 refine x_app' 0 inf5 uu24 J X hr.1 hr.2.1 h114 rfl (fun A115 n116 c117 U w X J => ?_) rfl
 refine x_m J rfl fun U J => ?_
 refine wn (hK101 _ _ ?_)
 refine ws fun K118 hK118 => ?_
 refine x_m J rfl fun U J => ?_
 refine x_m J rfl fun U J => ?_
 obtain ⟨h119, G⟩ := chk_some G
 have hr := X.rd 0 rfl
 refine x_app' 2 inf5 uu24 J X hr.1 hr.2.1 h119 rfl (fun A120 n121 c122 U w X J => ?_) rfl
 refine x_m J rfl fun U J => ?_
 obtain ⟨y123, h124, G⟩ := bnd G
 refine x_call' en50 J (F_page_Sum (L := own (kI .u8) 5 A120 n121 c122 (a0 ++ ((y104 ++ [a1]) ++ a2)) :: own (kI .u8) 5 A115 n116 c117 ((y104 ++ [a1]) ++ a2) :: own (kI .u8) 5 (some ⟨g109, 0, none⟩) 1 1 [a1] :: L) ((y104 ++ [a1]) ++ a2) A115 n116 c117 h124 (qz + 3) hZ (RdL.own 1 rfl (X.dropN 0)) hG0 X) (fun v U w hR J => ?_) rfl
 obtain ⟨rfl, X⟩ := hR
 obtain ⟨y125, h126, G⟩ := bnd G
 refine x_call' en49 J (F_page_four (L := own (kI .u8) 5 A120 n121 c122 (a0 ++ ((y104 ++ [a1]) ++ a2)) :: own (kI .u8) 5 A115 n116 c117 ((y104 ++ [a1]) ++ a2) :: own (kI .u8) 5 (some ⟨g109, 0, none⟩) 1 1 [a1] :: L) y123 h126 X) (fun v U w hR J => ?_) rfl
 obtain ⟨B127, m128, d129, rfl, X⟩ := hR
 obtain ⟨h130, G⟩ := chk_some G
 have hr := X.rd 0 rfl
 refine x_app' 1 inf5 uu24 J X hr.1 hr.2.1 h130 rfl (fun A131 n132 c133 U w X J => ?_) rfl
 refine x_m J rfl fun U J => ?_
 refine wn (hK118 _ _ ?_)
 refine wp_ret ?_
 replace X := X.drop 1 |>.drop 1 |>.drop 1
 cases G
 refine hQ _ _ ?_
 refine lv Tryd.results30 J rfl ?_
 exact ⟨A131, n132, c133, rfl, X⟩
noncomputable section
set_option linter.unusedSimpArgs false
def column_Uint_b1 (l318 : (List Int)) (x322 : Int) : Option ((List Int)) :=
  ltt (IntKind.u8.wrap x322) fun x324 => (chk (l318.length + [x324].length ≤ 140737488355328 / 1) (some (l318 ++ [x324])))
def column_Uint_x1_0 (l378 : (List Int)) (x382 : Int) : Option ((List Int)) :=
  column_Uint_b1 l378 x382
def column_Uint_l1 (l352 : (List Int)) (x356 : Int) : Option (((List Int) × Int) ⊕ (((List Int) × Int))) :=
  if (decide (128 ≤ x356)) = true then (ltt (IntKind.u8.wrap x356) fun x389 => (ltt (ior .u8 x389 128) fun x391 => (chk (l352.length + [x391].length ≤ 140737488355328 / 1) (ltt (ishr .u64 x356 7) fun x398 => (some (.inl (l352 ++ [x391], x398))))))) else (some (.inr (l352, x356)))
def column_Uint (a0 : (List Int)) (a1 : Int) : Option ((List Int)) :=
  (loop (fun s => column_Uint_l1 s.1 s.2) (a0, a1)).bind fun t => column_Uint_x1_0 t.1 t.2
def column_Int (a0 : (List Int)) (a1 : Int) : Option ((List Int)) :=
  ltt (ishl .i64 a1 1) fun x103 => (ltt (IntKind.u64.wrap x103) fun x105 => (ltt (ishr .i64 a1 63) fun x107 => (ltt (IntKind.u64.wrap x107) fun x109 => (ltt (ixor .u64 x105 x109) fun x111 => ((column_Uint a0 x111).bind fun y113 => (some y113))))))
def column_Text (a0 : (List Int)) (a1 : (List UInt8)) : Option ((List Int)) :=
  ltt (IntKind.u64.wrap (a1.length : Int)) fun x103 => ((column_Uint a0 x103).bind fun y105 => (chk (y105.length + a1.length ≤ 140737488355328 / 1) (some (y105 ++ stb a1))))
def slices_Min_int64_int64_b1 (x232 : Int) : Option (Int) :=
  some x232
def slices_Min_int64_int64_x1_0 (x260 : Int) : Option (Int) :=
  slices_Min_int64_int64_b1 x260
def slices_Min_int64_int64_l1 (a0 : (List Int)) (x246 : Int) (x247 : Int) : Option ((Int × Int) ⊕ ((Int))) :=
  if (decide (x247 < (a0.length : Int))) = true then ((at_ a0 x247).bind fun x267 => (ltt (IntKind.i64.wrap (x247 + 1)) fun x270 => (some (.inl (if x267 < x246 then x267 else x246, x270))))) else (some (.inr (x246)))
def slices_Min_int64_int64 (a0 : (List Int)) : Option (Int) :=
  if (decide ((a0.length : Int) < 1)) = true then (none) else ((at_ a0 0).bind fun x108 => ((loop (fun s => slices_Min_int64_int64_l1 a0 s.1 s.2) (x108, 1)).bind fun t => slices_Min_int64_int64_x1_0 t))
def bits_Len64_j3 (x128 : Int) (x129 : Int) : Option (Int) :=
  ltt (IntKind.u8.wrap x128) fun x131 => ((at_ ([0, 1, 2, 2, 3, 3, 3, 3, 4, 4, 4, 4, 4, 4, 4, 4, 5, 5, 5, 5, 5, 5, 5, 5, 5, 5, 5, 5, 5, 5, 5, 5, 6, 6, 6, 6, 6, 6, 6, 6, 6, 6, 6, 6, 6, 6, 6, 6, 6, 6, 6, 6, 6, 6, 6, 6, 6, 6, 6, 6, 6, 6, 6, 6, 7, 7, 7, 7, 7, 7, 7, 7, 7, 7, 7, 7, 7, 7, 7, 7, 7, 7, 7, 7, 7, 7, 7, 7, 7, 7, 7, 7, 7, 7, 7, 7, 7, 7, 7, 7, 7, 7, 7, 7, 7, 7, 7, 7, 7, 7, 7, 7, 7, 7, 7, 7, 7, 7, 7, 7, 7, 7, 7, 7, 7, 7, 7, 7, 8, 8, 8, 8, 8, 8, 8, 8, 8, 8, 8, 8, 8, 8, 8, 8, 8, 8, 8, 8, 8, 8, 8, 8, 8, 8, 8, 8, 8, 8, 8, 8, 8, 8, 8, 8, 8, 8, 8, 8, 8, 8, 8, 8, 8, 8, 8, 8, 8, 8, 8, 8, 8, 8, 8, 8, 8, 8, 8, 8, 8, 8, 8, 8, 8, 8, 8, 8, 8, 8, 8, 8, 8, 8, 8, 8, 8, 8, 8, 8, 8, 8, 8, 8, 8, 8, 8, 8, 8, 8, 8, 8, 8, 8, 8, 8, 8, 8, 8, 8, 8, 8, 8, 8, 8, 8, 8, 8, 8, 8, 8, 8, 8, 8, 8, 8, 8, 8, 8, 8, 8, 8, 8, 8, 8, 8, 8, 8] : List UInt8) x131).bind fun x133 => (ltt (IntKind.i64.wrap (x133.toNat : Int)) fun x135 => (ltt (IntKind.i64.wrap (x129 + x135)) fun x137 => (some x137))))
def bits_Len64_j2 (x118 : Int) (x119 : Int) : Option (Int) :=
  if (decide (256 ≤ x118)) = true then (ltt (ishr .u64 x118 8) fun x142 => (ltt (IntKind.i64.wrap (x119 + 8)) fun x144 => (bits_Len64_j3 x142 x144))) else (bits_Len64_j3 x118 x119)
def bits_Len64_j1 (x108 : Int) (x109 : Int) : Option (Int) :=
  if (decide (65536 ≤ x108)) = true then (ltt (ishr .u64 x108 16) fun x149 => (ltt (IntKind.i64.wrap (x109 + 16)) fun x151 => (bits_Len64_j2 x149 x151))) else (bits_Len64_j2 x108 x109)
def bits_Len64 (a0 : Int) : Option (Int) :=
  if (decide (4294967296 ≤ a0)) = true then (ltt (ishr .u64 a0 32) fun x156 => (bits_Len64_j1 x156 32)) else (bits_Len64_j1 a0 0)
def column_pack_b2 (y296 : ((List Int))) (x301 : Int) (l8646 : (List Int)) : Option ((List Int)) :=
  chk ((y296 ++ [x301]).length + l8646.length ≤ 140737488355328 / 1) (some ((y296 ++ [x301]) ++ l8646))
def column_pack_x1_2 (y296 : ((List Int))) (x301 : Int) (l10485 : (List Int)) : Option ((List Int)) :=
  column_pack_b2 y296 x301 l10485
def column_pack_b3 (x9533 : Int) (x11317 : Int) (l11318 : (List Int)) : Option ((Int × (List Int) × Int) ⊕ (((List Int)))) :=
  ltt (IntKind.i64.wrap (x9533 + 1)) fun x11319 => (some (.inl (x11317, l11318, x11319)))
def column_pack_x2_4 (x9533 : Int) (x11397 : Int) (l11398 : (List Int)) : Option ((Int × (List Int) × Int) ⊕ (((List Int)))) :=
  column_pack_b3 x9533 x11397 l11398
def column_pack_l2 (y107 : (Int)) (x294 : Int) (x11199 : Int) (x11357 : Int) (l11358 : (List Int)) (x11359 : Int) : Option ((Int × (List Int) × Int) ⊕ ((Int × (List Int)))) :=
  if (decide (x11359 < x294)) = true then (ltt (IntKind.i64.wrap (x11357.tdiv 8)) fun x11407 => ((at_ l11358 x11407).bind fun x11409 => (ltt (IntKind.i64.wrap (x11199 - y107)) fun x11412 => (ltt (IntKind.u64.wrap x11412) fun x11414 => (chk (0 ≤ x11359) (ltt (ishr .u64 x11414 x11359) fun x11417 => (ltt (iand .u64 x11417 1) fun x11419 => (ltt (IntKind.u8.wrap x11419) fun x11421 => (ltt (x11357.tmod 8) fun x11423 => (chk (0 ≤ x11423) (ltt (ishl .u8 x11421 x11423) fun x11426 => (ltt (ior .u8 x11409 x11426) fun x11428 => (ltt (IntKind.i64.wrap (x11357 + 1)) fun x11430 => (ltt (IntKind.i64.wrap (x11359 + 1)) fun x11432 => (some (.inl (x11430, l11358.set x11407.toNat x11428, x11432))))))))))))))))) else (some (.inr (x11357, l11358)))
def column_pack_l1 (a1 : (List Int)) (y107 : (Int)) (x294 : Int) (x9531 : Int) (l9532 : (List Int)) (x9533 : Int) : Option ((Int × (List Int) × Int) ⊕ (((List Int)))) :=
  if (decide (x9533 < (a1.length : Int))) = true then ((at_ a1 x9533).bind fun x11199 => ((loop (fun s => column_pack_l2 y107 x294 x11199 s.1 s.2.1 s.2.2) (x9531, l9532, 0)).bind fun t => column_pack_x2_4 x9533 t.1 t.2)) else (some (.inr (l9532)))
def column_pack_b1 (a0 : (List Int)) (a1 : (List Int)) (y107 : (Int)) (x294 : Int) : Option ((List Int)) :=
  (column_Int a0 y107).bind fun y296 => (ltt (IntKind.u8.wrap x294) fun x301 => (chk (y296.length + [x301].length ≤ 140737488355328 / 1) (ltt (IntKind.i64.wrap ((a1.length : Int) * x294)) fun x310 => (ltt (IntKind.i64.wrap (x310 + 7)) fun x312 => (ltt (IntKind.i64.wrap (x312.tdiv 8)) fun x314 => (chk (0 ≤ x314 ∧ (1 : Int) * x314 ≤ 140737488355328) ((loop (fun s => column_pack_l1 a1 y107 x294 s.1 s.2.1 s.2.2) (0, List.replicate x314.toNat (0 : Int), 0)).bind fun t => column_pack_x1_2 y296 x301 t)))))))
def column_pack_x3_0 (a0 : (List Int)) (a1 : (List Int)) (y107 : (Int)) (x11474 : Int) : Option ((List Int)) :=
  column_pack_b1 a0 a1 y107 x11474
def column_pack_l3 (a1 : (List Int)) (y107 : (Int)) (x11453 : Int) (x11454 : Int) : Option ((Int × Int) ⊕ ((Int))) :=
  if (decide (x11454 < (a1.length : Int))) = true then ((at_ a1 x11454).bind fun x11482 => (ltt (IntKind.i64.wrap (x11482 - y107)) fun x11485 => (ltt (IntKind.u64.wrap x11485) fun x11487 => ((bits_Len64 x11487).bind fun y11489 => (ltt (IntKind.i64.wrap (x11454 + 1)) fun x11491 => (some (.inl (if x11453 < y11489 then y11489 else x11453, x11491)))))))) else (some (.inr (x11453)))
def column_pack (a0 : (List Int)) (a1 : (List Int)) : Option ((List Int)) :=
  if ((a1.length : Int) == 0) = true then (some a0) else ((slices_Min_int64_int64 a1).bind fun y107 => ((loop (fun s => column_pack_l3 a1 y107 s.1 s.2) (0, 0)).bind fun t => column_pack_x3_0 a0 a1 y107 t))
def column_As_b1 (l7786 : (List Int)) : Option ((List Int)) :=
  some l7786
def column_As_b2 (l7863 : (List Int)) : Option ((List Int)) :=
  column_As_b1 l7863
def column_As_x1_1 (l7914 : (List Int)) : Option ((List Int)) :=
  column_As_b2 l7914
def column_As_l1 (a1 : (List Int)) (l7888 : (List Int)) (x7892 : Int) : Option (((List Int) × Int) ⊕ (((List Int)))) :=
  if (decide (x7892 < (a1.length : Int))) = true then ((at_ a1 x7892).bind fun x7925 => ((column_Int l7888 x7925).bind fun y7928 => (ltt (IntKind.i64.wrap (x7892 + 1)) fun x7933 => (some (.inl (y7928, x7933)))))) else (some (.inr (l7888)))
def column_As_b3 (l8020 : (List Int)) : Option ((List Int)) :=
  column_As_b1 l8020
def column_As_x2_3 (l8080 : (List Int)) : Option ((List Int)) :=
  column_As_b3 l8080
def column_As_l2 (a1 : (List Int)) (l8049 : (List Int)) (x8053 : Int) (x8054 : Int) : Option (((List Int) × Int × Int) ⊕ (((List Int)))) :=
  if (decide (x8054 < (a1.length : Int))) = true then ((at_ a1 x8054).bind fun x8091 => (ltt (IntKind.i64.wrap (x8091 - x8053)) fun x8095 => ((column_Int l8049 x8095).bind fun y8097 => (ltt (IntKind.i64.wrap (x8054 + 1)) fun x8102 => (some (.inl (y8097, x8091, x8102))))))) else (some (.inr (l8049)))
def column_As_b4 (l9220 : (List Int)) : Option ((List Int)) :=
  column_As_b1 l9220
def column_As_x3_5 (l9967 : (List Int)) : Option ((List Int)) :=
  column_As_b4 l9967
def column_As_b5 (a1 : (List Int)) (l9593 : (List Int)) (x9597 : Int) (x10231 : Int) : Option (((List Int) × Int) ⊕ (((List Int)))) :=
  (at_ a1 x9597).bind fun x10233 => ((column_Int l9593 x10233).bind fun y10236 => (ltt (IntKind.i64.wrap (x10231 - 1)) fun x10241 => (ltt (IntKind.u64.wrap x10241) fun x10243 => ((column_Uint y10236 x10243).bind fun y10245 => (ltt (IntKind.i64.wrap (x9597 + x10231)) fun x10250 => (some (.inl (y10245, x10250))))))))
def column_As_x4_7 (a1 : (List Int)) (l9593 : (List Int)) (x9597 : Int) (x10307 : Int) : Option (((List Int) × Int) ⊕ (((List Int)))) :=
  column_As_b5 a1 l9593 x9597 x10307
def column_As_j1 (x10279 : Int) (b10320 : Bool) : Option ((Int) ⊕ ((Int))) :=
  if b10320 = true then (ltt (IntKind.i64.wrap (x10279 + 1)) fun x10323 => (some (.inl (x10323)))) else (some (.inr (x10279)))
def column_As_l4 (a1 : (List Int)) (x9597 : Int) (x10279 : Int) : Option ((Int) ⊕ ((Int))) :=
  ltt (IntKind.i64.wrap (x9597 + x10279)) fun x10325 => (if (decide (x10325 < (a1.length : Int))) = true then ((at_ a1 x10325).bind fun x10328 => ((at_ a1 x9597).bind fun x10331 => (column_As_j1 x10279 (x10328 == x10331)))) else (column_As_j1 x10279 false))
def column_As_l3 (a1 : (List Int)) (l9593 : (List Int)) (x9597 : Int) : Option (((List Int) × Int) ⊕ (((List Int)))) :=
  if (decide (x9597 < (a1.length : Int))) = true then ((loop (fun s => column_As_l4 a1 x9597 s) (1)).bind fun t => column_As_x4_7 a1 l9593 x9597 t) else (some (.inr (l9593)))
def column_As (a0 : Int) (a1 : (List Int)) : Option ((List Int)) :=
  ltt (IntKind.u64.wrap (a1.length : Int)) fun x104 => ((column_Uint [a0] x104).bind fun y106 => (if (a0 == 0) = true then ((loop (fun s => column_As_l1 a1 s.1 s.2) (y106, 0)).bind fun t => column_As_x1_1 t) else (if (a0 == 1) = true then ((loop (fun s => column_As_l2 a1 s.1 s.2.1 s.2.2) (y106, 0, 0)).bind fun t => column_As_x2_3 t) else (if (a0 == 2) = true then ((loop (fun s => column_As_l3 a1 s.1 s.2) (y106, 0)).bind fun t => column_As_x3_5 t) else (if (a0 == 3) = true then ((column_pack y106 a1).bind fun y10336 => (column_As_b1 y10336)) else (column_As_b1 y106))))))
def column_Ints_b1 (l628 : (List Int)) : Option ((List Int)) :=
  some l628
def column_Ints_x1_0 (l748 : (List Int)) : Option ((List Int)) :=
  column_Ints_b1 l748
def column_Ints_b2 (x692 : Int) (l788 : (List Int)) : Option (((List Int) × Int) ⊕ (((List Int)))) :=
  ltt (IntKind.u8.wrap (x692 + 1)) fun x792 => (some (.inl (l788, x792)))
def column_Ints_l1 (a0 : (List Int)) (l688 : (List Int)) (x692 : Int) : Option (((List Int) × Int) ⊕ (((List Int)))) :=
  if (decide (x692 ≤ 3)) = true then ((column_As x692 a0).bind fun y795 => (if (decide ((y795.length : Int) < (l688.length : Int))) = true then (column_Ints_b2 x692 y795) else (column_Ints_b2 x692 l688))) else (some (.inr (l688)))
def column_Ints (a0 : (List Int)) : Option ((List Int)) :=
  (column_As 0 a0).bind fun y103 => ((loop (fun s => column_Ints_l1 a0 s.1 s.2) (y103, 1)).bind fun t => column_Ints_x1_0 t)
end
end Go.Proofs.YteodeedejjcmgaaDoor.M
