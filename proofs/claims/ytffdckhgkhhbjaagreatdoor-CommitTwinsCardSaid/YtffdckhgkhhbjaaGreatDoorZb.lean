/- Texts of the claim, joined: what it uses of Ei, Ej, Ek, El, Em, En, Eo, Ep, Es, Eh, Eq, Er, Et, Eu, Ds, Kd, Gr, Op, Dpg. -/
import Derived.Test.YtffdckhgkhhbjaaGreatDoorZa
import Derived.Recover
import Derived.Lib.AppendStr
import Derived.Lib.ConvBytes
import Derived.Laws.BytesString
import Derived.Lib.AppendZerosOnto
import Derived.Lib.Overlaps
import Derived.Laws.Strings2
import Derived.RangeFuncCalls
import Derived.RangeFuncLeaves
import Derived.RangeFuncRecord
import Derived.RangeFuncSeq
import Derived.OrdersIn
import Derived.TacticsIn
import Derived.OwnWalkIn
import Derived.Laws.StructEq
import Derived.Deep.Slices
import Derived.Deep.Fields
import Derived.SizedLaws
import Derived.Below
import Derived.Carry
import Derived.WalkKit
import Derived.ProofKit
import Derived.OpenShut
import Derived.ShutString
import Derived.ChangeOld
import Derived.FnData
import Derived.LaidMore
import Derived.LaidLaws
import Derived.MakeChecks
import Derived.Lib.SlicesCompact
import Derived.Sort.OwnSorted
import Derived.Shelf.SlIter.Collect
import Derived.Shelf.Vars
import Derived.HandedShaped
import Derived.Deep.Draws
import Derived.Lib.CutLaws
import Derived.Lib.ParseIntB
import Derived.LaidSub
import Derived.Lib.LaidU8
import Derived.Test.YtffdckhgkhhbjaaGreatDoorProg
namespace Go.Proofs.YtffdckhgkhhbjaaGreatDoor.E
open Go Go.RowKit
set_option linter.unusedVariables false
set_option linter.unusedSimpArgs false
def ltt {α β : Type} (x : α) (f : α → Option β) : Option β := f x
def sum_ {α β γ : Type} (x : α ⊕ β) (f : α → Option γ) (g : β → Option γ) : Option γ := match x with
 | .inl a => f a
 | .inr b => g b
theorem ltt_ {α β : Type} {e : α} {f : α → Option β} {y : β} (h : ltt e f = some y) : ∃ x, x = e ∧ f x = some y := ⟨e, rfl, h⟩
theorem sum_l {α β γ : Type} {a : α} {f : α → Option γ} {g : β → Option γ} {y : γ} (h : sum_ (.inl a) f g = some y) : f a = some y := h
theorem sum_r {α β γ : Type} {b : β} {f : α → Option γ} {g : β → Option γ} {y : γ} (h : sum_ (.inr b) f g = some y) : g b = some y := h
section
variable {P : Program} {ops : Array Oper} {Q : Exit → Act → World → Prop} {rest : List Oper} {o : Oper} {a : Act} {w w' : World} {K : Act → World → Prop}
 {n : Nat} {D : List Deferred} {F : List (Nat × Value)} {r : World} {L : List HP} {α : Type} {d : Kd α} {x y c : Operand} {t' e T xt yt : TypeId} {v : Value} {t : Nat} {k : IntKind} {i j : Int} {s u : List UInt8}
theorem rv_i {e : Int} {x : Int} (h : x = e) (hr : RunV P o a w (.int k e)) : RunV P o a w (.int k x) := h ▸ hr
def RetS {ρ π : Type} (P : Program) (f : FuncId) (args : Array Value) (w : World) (ch : List PanicEntry) (y : ρ ⊕ π) (R : ρ → Value → World → Prop) (Rp : π → World → Prop) : Prop := match y with
 | .inl a => Ret P f args w (R a)
 | .inr b => Calls P f args w fun e w' => e = .panicked ch ∧ Rp b w'
theorem RetS.lf {ρ π : Type} {f : FuncId} {args : Array Value} {ch : List PanicEntry} {a : ρ} {R : ρ → Value → World → Prop} {Rp : π → World → Prop} (h : RetS P f args w ch (.inl a) R Rp) : Ret P f args w (R a) := h
theorem RetS.rf {ρ π : Type} {f : FuncId} {args : Array Value} {ch : List PanicEntry} {b : π} {R : ρ → Value → World → Prop} {Rp : π → World → Prop} (h : RetS P f args w ch (.inr b) R Rp) : Calls P f args w fun e w' => e = .panicked ch ∧ Rp b w' := h
theorem enterS {ρ π : Type} {f : FuncId} {fn : Func} {cd : Code} {args : Array Value} {ch : List PanicEntry} {y : ρ ⊕ π} {R : ρ → Value → World → Prop} {Rp : π → World → Prop} {n : Nat} (hf : P.funcs[f]? = some fn) (hb : fn.body = some cd) (hn : fn.ntmps = n)
  (F : List (Nat × Value)) (hF : F.map (fun p => args[p.1]?) = F.map fun p => some p.2) (hle : (args.size ≤ n) = True)
  (h : ∀ a, FR n [] a F → ∀ Qf : Exit → Act → World → Prop, (∀ a0, y = .inl a0 → ∀ a w, bodyPost P fn (fun e w' => ∃ v, e = .returned v ∧ R a0 v w') .ret a w → Qf .ret a w) →
   (∀ a0, y = .inl a0 → ∀ a w, bodyPost P fn (fun e w' => ∃ v, e = .returned v ∧ R a0 v w') .normal a w → Qf .normal a w) →
   (∀ b, y = .inr b → ∀ (a : Act) w, a.defers = [] → Rp b w → Qf (.panic ch) a w) → cd.wp P Qf a w) : RetS P f args w ch y R Rp := by
 cases y with
 | inl a0 => exact enter hf hb hn F hF hle fun a hA Qf h1 h2 => h a hA Qf (fun a1 e a w q => by cases e; exact h1 a w q) (fun a1 e a w q => by cases e; exact h2 a w q) (fun b e => by cases e)
 | inr b =>
  refine calls_of_wp (R := fun e w' => e = .panicked ch ∧ Rp b w') hf hb (h _ ⟨?_, rfl, ?_⟩ _ (fun a0 e => by cases e) (fun a0 e => by cases e) fun b' e a w hd hR => ?_)
  ·have := of_eq_true hle
   simp [hn]; omega
  ·intro t v hv
   clear h
   induction F with
   | nil => cases hv
   | cons p q ih =>
    obtain ⟨k, u⟩ := p
    simp only [List.map_cons, List.cons.injEq] at hF
    simp only [lk] at hv
    by_cases e : Nat.beq k t = true
    ·rw [e] at hv
     have e' := Nat.eq_of_beq_eq_true e
     subst e'
     cases hv
     have hlt := (Array.getElem?_eq_some_iff.1 hF.1).1
     show (args ++ _)[k]? = _
     rw [Array.getElem?_append_left hlt]
     exact hF.1
    ·rw [Bool.eq_false_iff.2 e] at hv
     exact ih hF.2 hv
  ·cases e
   exact ⟨hd, rfl, hR⟩
theorem e_callp {f : FuncId} {fx : Operand} {az : Array Operand} {ts : Array TypeId} {fs vs caps vals : Array Value} {ch : List PanicEntry} {Rp : World → Prop} (hf : EN P f) (ho : o.op = .call { callee := .value fx, args := az, argTypes := ts }) (hfx : a.eval fx = .func (.func f) fs caps) (hargs : az.map a.eval = vs) (hv : fs ++ vs ++ caps = vals)
  (hC : Calls P f vals w fun e w' => e = .panicked ch ∧ Rp w') (hK : ∀ w', Rp w' → Q (.panic ch) a w') : o.wp P a w K Q := by
 have h : (execOp a.eval o).run P w = .ok (.enter f vals) w := by
  unfold execOp; rw [ho]
  simp only [resolve, hfx, Deferred.ofValue, Sem.run_bind, Sem.run_pure, Result.andThen_ok, invoke]
  subst hv
  have := hf (fs ++ vs ++ caps) w
  simpa [hargs] using this
 unfold Oper.wp
 rw [h]
 exact Calls.mono hC fun e w' ⟨he, hR⟩ => by subst he; exact hK w' hR
theorem e_callw {f : FuncId} {fx : Operand} {az : Array Operand} {ts : Array TypeId} {fs vs caps vals : Array Value} {R : Value → World → Prop} (hf : EN P f) (ho : o.op = .call { callee := .value fx, args := az, argTypes := ts }) (hfx : a.eval fx = .func (.func f) fs caps) (hargs : az.map a.eval = vs) (hv : fs ++ vs ++ caps = vals)
  (hC : Ret P f vals w R) (hK : ∀ v w', R v w' → K (a.put o.dst v) w') : o.wp P a w K Q := by
 have h : (execOp a.eval o).run P w = .ok (.enter f vals) w := by
  unfold execOp; rw [ho]
  simp only [resolve, hfx, Deferred.ofValue, Sem.run_bind, Sem.run_pure, Result.andThen_ok, invoke]
  subst hv
  have := hf (fs ++ vs ++ caps) w
  simpa [hargs] using this
 unfold Oper.wp
 rw [h]
 exact Calls.mono hC fun e w' ⟨v, he, hR⟩ => by subst he; exact hK v w' hR
theorem x_callp {f : FuncId} {fx : Operand} {az : Array Operand} {ts : Array TypeId} {fs vs caps vals : Array Value} {ch : List PanicEntry} {Rp : World → Prop} (hf : EN P f) (hA : FR n D a F) (hC : Calls P f vals w fun e w' => e = .panicked ch ∧ Rp w') (kk : ∀ w', Rp w' → Q (.panic ch) a w')
  (ho : o.op = .call { callee := .value fx, args := az, argTypes := ts } := by rfl) (hfx : ev F fx = some (.func (.func f) fs caps) := by rfl) (hargs : az.toList.map (ev F) = vs.toList.map some := by rfl) (hv : fs ++ vs ++ caps = vals := by rfl) (hg : o.guard = none := by rfl) : wpList P ops Q (o :: rest) a w :=
 wl_eff hg fun K hK => e_callp hf ho (hA.ev hfx) (evs hA hargs) hv hC kk
theorem x_callp' {f : FuncId} {fx : Operand} {az : Array Operand} {ts : Array TypeId} {fs vs caps vals : Array Value} {ch : List PanicEntry} {Rp : World → Prop} (hf : EN P f) (hA : FR n D a F) (hC : Calls P f vals w fun e w' => e = .panicked ch ∧ Rp w') (kk : ∀ w', Rp w' → Q (.panic ch) a w') (h_ : (o.op, ev F fx, az.toList.map (ev F), fs ++ vs ++ caps, o.guard) = (.call { callee := .value fx, args := az, argTypes := ts }, some (.func (.func f) fs caps), vs.toList.map some, vals, none)) : wpList P ops Q (o :: rest) a w := x_callp (hf := hf) (hA := hA) (hC := hC) (kk := kk) (congrArg (·.1) h_) (congrArg (·.2.1) h_) (congrArg (·.2.2.1) h_) (congrArg (·.2.2.2.1) h_) (congrArg (·.2.2.2.2) h_)
theorem x_callw {f : FuncId} {fx : Operand} {az : Array Operand} {ts : Array TypeId} {fs vs caps vals : Array Value} {R : Value → World → Prop} (hf : EN P f) (hA : FR n D a F) (hC : Ret P f vals w R) (kk : ∀ v a' w', R v w' → FR n D a' ((t, v) :: F) → wpList P ops Q rest a' w')
  (ho : o.op = .call { callee := .value fx, args := az, argTypes := ts } := by rfl) (hfx : ev F fx = some (.func (.func f) fs caps) := by rfl) (hargs : az.toList.map (ev F) = vs.toList.map some := by rfl) (hv : fs ++ vs ++ caps = vals := by rfl) (hd : o.dst = some t := by rfl) (hg : o.guard = none := by rfl) (ht : Nat.blt t n = true := by rfl) : wpList P ops Q (o :: rest) a w :=
 wl_eff hg fun K hK => e_callw hf ho (hA.ev hfx) (evs hA hargs) hv hC fun v w' hR => hK _ _ (kk v _ w' hR (by rw [hd]; exact hA.put t _ (by have := Nat.le_of_ble_eq_true ht; omega)))
theorem x_callw' {f : FuncId} {fx : Operand} {az : Array Operand} {ts : Array TypeId} {fs vs caps vals : Array Value} {R : Value → World → Prop} (hf : EN P f) (hA : FR n D a F) (hC : Ret P f vals w R) (kk : ∀ v a' w', R v w' → FR n D a' ((t, v) :: F) → wpList P ops Q rest a' w') (h_ : (o.op, ev F fx, az.toList.map (ev F), fs ++ vs ++ caps, o.dst, o.guard, Nat.blt t n) = (.call { callee := .value fx, args := az, argTypes := ts }, some (.func (.func f) fs caps), vs.toList.map some, vals, some t, none, true)) : wpList P ops Q (o :: rest) a w := x_callw (hf := hf) (hA := hA) (hC := hC) (kk := kk) (congrArg (·.1) h_) (congrArg (·.2.1) h_) (congrArg (·.2.2.1) h_) (congrArg (·.2.2.2.1) h_) (congrArg (·.2.2.2.2.1) h_) (congrArg (·.2.2.2.2.2.1) h_) (congrArg (·.2.2.2.2.2.2) h_)
theorem e_panic {ty : TypeId} {v0 : Value} (ho : o.op = .panic x) (hx : a.eval x = .iface ty v0) (hK : Q (.panic [{ v := .iface ty v0, recovered := false }]) a w) : o.wp P a w K Q := by
 have h : (execOp a.eval o).run P w = .halt (.panic (.iface ty v0)) w := by
  unfold execOp; rw [ho]
  simp only [hx]
  rfl
 unfold Oper.wp
 rw [h]
 exact hK
theorem x_panic {ty : TypeId} {v0 : Value} (hA : FR n D a F) (hK : Q (.panic [{ v := .iface ty v0, recovered := false }]) a w) (ho : o.op = .panic x := by rfl) (hx : ev F x = some (.iface ty v0) := by rfl) (hg : o.guard = none := by rfl) : wpList P ops Q (o :: rest) a w :=
 wl_eff hg fun K hK' => e_panic ho (hA.ev hx) hK
theorem x_panic' {ty : TypeId} {v0 : Value} (hA : FR n D a F) (hK : Q (.panic [{ v := .iface ty v0, recovered := false }]) a w) (h_ : (o.op, ev F x, o.guard) = (.panic x, some (.iface ty v0), none)) : wpList P ops Q (o :: rest) a w := x_panic (hA := hA) (hK := hK) (congrArg (·.1) h_) (congrArg (·.2.1) h_) (congrArg (·.2.2) h_)
theorem r_makeI {ds : TypeDesc} {vx : Value} (hu : P.underlying xt = some ds) (hn : (match ds with | .interface _ => false | _ => true) = true) (ho : o.op = .makeInterface xt x) (hx : a.eval x = vx) : RunV P o a w (.iface xt vx) := by
 unfold RunV execOp; rw [ho]
 simp only [hx, Instr.makeInterface, Sem.run_bind, run_underlying hu]
 cases ds <;> first | rfl | cases hn
theorem e_defer {f : FuncId} {fx : Operand} {az : Array Operand} {ts : Array TypeId} {fs vs caps : Array Value} (ho : o.op = .defer { callee := .value fx, args := az, argTypes := ts }) (hfx : a.eval fx = .func (.func f) fs caps) (hargs : az.map a.eval = vs)
  (hK : K ({ a with defers := { target := .fn (.func f) caps, args := fs ++ vs } :: a.defers }.put o.dst undef) w) : o.wp P a w K Q := by
 have h : (execOp a.eval o).run P w = .ok (.defer { target := .fn (.func f) caps, args := fs ++ vs }) w := by
  unfold execOp; rw [ho]
  simp only [resolve, hfx, Deferred.ofValue, Sem.run_bind, Sem.run_pure, Result.andThen_ok, hargs]
 unfold Oper.wp
 rw [h]
 exact hK
theorem FR.defer (h : FR n D a F) (d : Deferred) : FR n (d :: D) { a with defers := d :: a.defers } F := ⟨h.size, by show d :: a.defers = _; rw [h.defers], h.at_⟩
theorem x_defer {f : FuncId} {fx : Operand} {az : Array Operand} {ts : Array TypeId} {fs vs caps : Array Value} (hA : FR n D a F) (kk : ∀ a', FR n ({ target := .fn (.func f) caps, args := fs ++ vs } :: D) a' F → wpList P ops Q rest a' w)
  (ho : o.op = .defer { callee := .value fx, args := az, argTypes := ts } := by rfl) (hfx : ev F fx = some (.func (.func f) fs caps) := by rfl) (hargs : az.toList.map (ev F) = vs.toList.map some := by rfl) (hd : o.dst = none := by rfl) (hg : o.guard = none := by rfl) : wpList P ops Q (o :: rest) a w :=
 wl_eff hg fun K hK => e_defer ho (hA.ev hfx) (evs hA hargs) (hK _ _ (kk _ (by rw [hd]; exact hA.defer _)))
theorem enterD {f : FuncId} {fn : Func} {cd : Code} {args : Array Value} {R : Value → World → Prop} {n : Nat} (hf : P.funcs[f]? = some fn) (hb : fn.body = some cd) (hn : fn.ntmps = n)
  (F : List (Nat × Value)) (hF : F.map (fun p => args[p.1]?) = F.map fun p => some p.2) (hle : (args.size ≤ n) = True)
  (h : ∀ a, FR n [] a F → cd.wp P (bodyPostD P fn (fun e w' => ∃ v, e = .returned v ∧ R v w')) a w) : Ret P f args w R := by
 refine calls_of_wp_defers hf hb (h _ ⟨?_, rfl, ?_⟩)
 ·have := of_eq_true hle
  simp [hn]; omega
 ·intro t v hv
  clear h
  induction F with
  | nil => cases hv
  | cons p q ih =>
   obtain ⟨k, u⟩ := p
   simp only [List.map_cons, List.cons.injEq] at hF
   simp only [lk] at hv
   by_cases e : Nat.beq k t = true
   ·rw [e] at hv
    have e' := Nat.eq_of_beq_eq_true e
    subst e'
    cases hv
    have hlt := (Array.getElem?_eq_some_iff.1 hF.1).1
    show (args ++ _)[k]? = _
    rw [Array.getElem?_append_left hlt]
    exact hF.1
   ·rw [Bool.eq_false_iff.2 e] at hv
    exact ih hF.2 hv
def stb (s : List UInt8) : List Int := s.map fun b => (b.toNat : Int)
theorem strCells_eq (s : List UInt8) : Lib.strCells ⟨s.toArray⟩ = (stb s).map fun n => Value.int .u8 n := by simp [Lib.strCells, stb]
theorem lay_u8 : ∀ l : List Int, Lay (kI .u8) l (l.map fun n => Value.int .u8 n)
 | [] => rfl
 | x :: l => ⟨[.int .u8 x], _, rfl, rfl, lay_u8 l⟩
theorem e_appS (i : Nat) {n1 c : Nat} {A : Option Addr} {xs : List Int} {L' : List HP} {t u : TypeId} (hS : SH r L w) (hL : pk i L = own (kI .u8) e A n1 c xs :: L')
  (ht : P.underlying t = some (.slice e)) (hu : P.underlying u = some .string) (hi : (P.info? e).map (fun i => (i.zero, i.size, i.bytes)) = some (some (.int .u8 0), 1, 1))
  (ho : o.op = .call { callee := .builtin .append, args := #[x, y], argTypes := #[t, u] }) (hx : a.eval x = .slice A n1 c) (hy : a.eval y = str s) (hb : xs.length + s.length ≤ 140737488355328 / 1)
  (hK : ∀ A' n' c' w', SH r (own (kI .u8) e A' n' c' (xs ++ stb s) :: L') w' → K (a.put o.dst (.slice A' n' c')) w') : o.wp P a w K Q := by
 have hS' := hS.pk i
 rw [hL] at hS'
 obtain ⟨S1, S2, h1, h2, hd, ⟨hn1, ⟨inner, hLay, hown⟩, hSo⟩, hsep⟩ := hS'.sep
 subst hn1
 obtain ⟨inf, hi1, hi2, hi3, hi4⟩ := info_parts hi
 have hsz : (⟨s.toArray⟩ : ByteArray).size = s.length := ba_size s
 have hbm : xs.length + s.length ≤ maxLen := by simp only [maxLen]; omega
 obtain ⟨v', w', hrun, hown', hg, _⟩ := Lib.run_append_own_string (P := P) w 0 t u o.type e inf ht hu hi1 hi2 hi3 hi4 _ _ _ hown ⟨s.toArray⟩ (by rw [hsz]; exact hbm) (by rw [hsz]; omega) (Nat.zero_le _)
 rw [hsz] at hown'
 have hat : v'.ownBlock = (Value.slice A xs.length c).ownBlock ∨ ∃ k, v'.ownBlock = some k ∧ w.heap.size ≤ k := by
  rcases hown.2 with ⟨hv, hn⟩ | ⟨g, cap, cur, hv, hg0, hh, hnc, hcm, hs, htk⟩
  ·injection hv with hA hn' hc
   subst hA hc
   rw [hn'] at hrun hown
   obtain ⟨v2, w2, hrun2, hown2, hg2, _⟩ := Lib.run_append_own_string (P := P) w w.heap.size t u o.type e inf ht hu hi1 hi2 hi3 hi4 _ _ _ (show w.ownsRow w.heap.size e 1 (.slice none 0 0) 0 [] from World.ownsRow_nil w w.heap.size e 1) ⟨s.toArray⟩ (by rw [hsz]; omega) (by rw [hsz]; omega) (Nat.le_refl _)
   rw [hrun] at hrun2
   cases hrun2
   rcases hb' : v'.ownBlock with _ | k
   ·left; simp [Value.ownBlock]
   ·exact .inr ⟨k, rfl, (hown2.lt k hb').1⟩
  ·injection hv with hA hn' hc
   subst hA hc
   by_cases hroom : xs.length + s.length ≤ c
   ·have hsz1 : inf.size = 1 := hi3
    have := Lib.run_append_room_string (P := P) w t u o.type e inf ht hu hi1 hsz1 g xs.length c cur hh ⟨s.toArray⟩ (by rw [hsz]; exact hroom) (by rw [hsz, hs]; show _ ≤ c * 1; omega)
    rw [hrun] at this
    cases this
    exact .inl rfl
   ·have := Lib.run_append_grow_string (P := P) w t u o.type e inf _ ht hu hi1 hi2 ⟨g, 0, none⟩ xs.length c inner (by rw [hLay.length, hi3]; rfl) (hown.cells (g := g) rfl) ⟨s.toArray⟩ (by rw [hsz]; omega) (by rw [hsz]; omega) (growslice_fits (by rw [hsz]; omega) (by rw [hsz, hi4]; omega))
    rw [hrun] at this
    cases this
    exact .inr ⟨_, rfl, Nat.le_refl _⟩
 have hv : ∃ A' c', v' = .slice A' (xs.length + s.length) c' := by
  rcases hown'.2 with ⟨rfl, hn⟩ | ⟨g, cap, cur, rfl, _⟩
  ·exact ⟨none, 0, by rw [hn]⟩
  ·exact ⟨_, _, rfl⟩
 obtain ⟨A', c', rfl⟩ := hv
 have h : (execOp a.eval o).run P w = .ok (.value (.slice A' (xs.length + s.length) c')) w' := by
  unfold execOp; rw [ho]
  simp only [resolve, Sem.run_bind, Sem.run_pure, Result.andThen_ok, invoke]
  have e1 : #[x, y].map a.eval = #[.slice A xs.length c, .string ⟨s.toArray⟩] := by simp [hx, hy, str]
  rw [e1]
  show (do pure (.value (← Builtin.append_ #[t, u] o.type _)) : Sem Next).run P w = _
  rw [Sem.run_bind, hrun]
  rfl
 unfold Oper.wp
 rw [h]
 have hlen : (stb s).length = s.length := by simp [stb]
 refine hK _ _ _ _ (hS'.upd h1 h2 hd hsep hg.os hg.tape hg.output hg.size (fun k hk hk1 => hg.block k hk fun e => hk1 (hSo k e.symm)) (Ls := [own (kI .u8) e A' (xs.length + s.length) c' (xs ++ stb s)]) fun S hS1 hS2 _ =>
  ⟨S, fun _ => False, fun _ h => h, fun _ h => h.elim, fun _ _ h => h, ⟨by simp [hlen], ⟨_, hLay.append (lay_u8 _), by rw [List.length_append, hlen, ← strCells_eq]; exact hown'⟩, fun g hg' => ?_⟩, trivial⟩)
 rw [List.length_append, hlen] at hg'
 rcases hat with h | ⟨k, h, hk⟩
 ·rw [h] at hg'; exact hS1 _ (hSo _ hg')
 ·have hlt := (hown'.lt g hg').2
  rw [h] at hg'
  cases hg'
  exact hS2 _ hk hlt
theorem x_appS (q : Nat) {n1 c1 : Nat} {A : Option Addr} {xs : List Int} {L' : List HP} {t0 u0 : TypeId} (hi : (P.info? e).map (fun i => (i.zero, i.size, i.bytes)) = some (some (.int .u8 0), 1, 1)) (ht' : P.underlying t0 = some (.slice e)) (hu : P.underlying u0 = some .string) (hA : FR n D a F) (hS : SH r L w)
  (hb : xs.length + s.length ≤ 140737488355328 / 1) (hL : pk q L = own (kI .u8) e A n1 c1 xs :: L')
  (kk : ∀ A' n' c' a' w', SH r (own (kI .u8) e A' n' c' (xs ++ stb s) :: L') w' → FR n D a' ((t, .slice A' n' c') :: F) → wpList P ops Q rest a' w')
  (ho : o.op = .call { callee := .builtin .append, args := #[x, y], argTypes := #[t0, u0] } := by rfl) (hx : ev F x = some (.slice A n1 c1) := by rfl) (hy : ev F y = some (str s) := by rfl)
  (hd : o.dst = some t := by rfl) (hg : o.guard = none := by rfl) (ht : Nat.blt t n = true := by rfl) : wpList P ops Q (o :: rest) a w :=
 wl_eff hg fun K hK => e_appS q hS hL ht' hu hi ho (hA.ev hx) (hA.ev hy) hb fun A' n' c' w' hS' => hK _ _ (kk A' n' c' _ w' hS' (by rw [hd]; exact hA.put t _ (by have := Nat.le_of_ble_eq_true ht; omega)))
theorem x_appS' (q : Nat) {n1 c1 : Nat} {A : Option Addr} {xs : List Int} {L' : List HP} {t0 u0 : TypeId} (hi : (P.info? e).map (fun i => (i.zero, i.size, i.bytes)) = some (some (.int .u8 0), 1, 1)) (ht' : P.underlying t0 = some (.slice e)) (hu : P.underlying u0 = some .string) (hA : FR n D a F) (hS : SH r L w)
  (hb : xs.length + s.length ≤ 140737488355328 / 1) (hL : pk q L = own (kI .u8) e A n1 c1 xs :: L')
  (kk : ∀ A' n' c' a' w', SH r (own (kI .u8) e A' n' c' (xs ++ stb s) :: L') w' → FR n D a' ((t, .slice A' n' c') :: F) → wpList P ops Q rest a' w') (h_ : (o.op, ev F x, ev F y, o.dst, o.guard, Nat.blt t n) = (.call { callee := .builtin .append, args := #[x, y], argTypes := #[t0, u0] }, some (.slice A n1 c1), some (str s), some t, none, true)) : wpList P ops Q (o :: rest) a w := x_appS (q := q) (hi := hi) (ht' := ht') (hu := hu) (hA := hA) (hS := hS) (hb := hb) (hL := hL) (kk := kk) (congrArg (·.1) h_) (congrArg (·.2.1) h_) (congrArg (·.2.2.1) h_) (congrArg (·.2.2.2.1) h_) (congrArg (·.2.2.2.2.1) h_) (congrArg (·.2.2.2.2.2) h_)
def bts (l : List Int) : List UInt8 := l.map fun n => UInt8.ofNat n.toNat
theorem bts_stb (s : List UInt8) : bts (stb s) = s := by
 induction s with
 | nil => rfl
 | cons b s ih => show UInt8.ofNat (b.toNat : Int).toNat :: bts (stb s) = _; rw [ih]; simp
theorem r_b2s {A : Option Addr} {m c : Nat} {xs : List Int} (hs : P.underlying xt = some (.slice e)) (he : P.underlying e = some (.int .u8)) (hd : P.underlying yt = some .string) (hr : Rd (kI .u8) w A xs ∧ xs.length = m ∧ m ≤ c ∧ c ≤ maxLen)
  (ho : o.op = .convert xt yt x) (hx : a.eval x = .slice A m c) : RunV P o a w (str (bts xs)) := by
 unfold RunV execOp; rw [ho]
 simp only [hx, Sem.run_bind, run_convert_bytes_string w xt yt e A m c hs he hd]
 obtain ⟨h1, h2, h3, h4⟩ := hr
 have key : (Conv.bytesToString (.slice A m c)).run P w = .ok (str (bts xs)) w := by
  have hfold : ∀ (l : List Int) (b : ByteArray), l.foldl (fun r n => r.push (UInt8.ofNat n.toNat)) b = ⟨b.data ++ (bts l).toArray⟩ := by
   intro l
   induction l with
   | nil => intro b; simp [bts]
   | cons n l ih => intro b; rw [List.foldl_cons, ih]; simp [bts, ByteArray.push]
  rcases A with _ | ad
  ·have : xs = [] := by
    rcases Nat.eq_zero_or_pos xs.length with h | h
    ·exact List.eq_nil_of_length_eq_zero h
    ·obtain ⟨_, h', _⟩ := h1 h; cases h'
   subst this
   rfl
  ·have hl : (loadCells ad m).run P w = .ok (xs.map (Value.int .u8)).toArray w := by
    subst h2
    have hc : ∀ j u, (xs.map (Value.int .u8))[j]? = some u → w.cell? (ad.add j) = some u := by
     intro j u hj
     rw [List.getElem?_map, Option.map_eq_some_iff] at hj
     obtain ⟨n, hn, rfl⟩ := hj
     obtain ⟨ad', hA, hra⟩ := h1 (by have := (List.getElem?_eq_some_iff.1 hn).1; omega)
     cases hA
     obtain ⟨cs, hcs, hg⟩ := hra j n hn
     have := hg 0 (.int .u8 n) (by rw [show cs = [.int .u8 n] from hcs]; rfl)
     simpa [kI] using this
    have := run_loadCells_list (P := P) w ad (xs.map (Value.int .u8)) hc
    simpa using this
   rw [run_bytesToString w ad m c xs hl, hfold]
   simp [str]
 rw [key]
 rfl
theorem x_b2s {A : Option Addr} {m c : Nat} {xs : List Int} (hs : P.underlying xt = some (.slice e)) (he : P.underlying e = some (.int .u8)) (hd' : P.underlying yt = some .string) (hr : Rd (kI .u8) w A xs ∧ xs.length = m ∧ m ≤ c ∧ c ≤ maxLen) (hA : FR n D a F) (kk : ∀ a', FR n D a' ((t, str (bts xs)) :: F) → wpList P ops Q rest a' w)
  (ho : o.op = .convert xt yt x := by rfl) (hx : ev F x = some (.slice A m c) := by rfl) (hd : o.dst = some t := by rfl) (hg : o.guard = none := by rfl) (ht : Nat.blt t n = true := by rfl) : wpList P ops Q (o :: rest) a w := x_val hA (r_b2s hs he hd' hr ho (hA.ev hx)) kk hd hg ht
theorem x_b2s' {A : Option Addr} {m c : Nat} {xs : List Int} (hs : P.underlying xt = some (.slice e)) (he : P.underlying e = some (.int .u8)) (hd' : P.underlying yt = some .string) (hr : Rd (kI .u8) w A xs ∧ xs.length = m ∧ m ≤ c ∧ c ≤ maxLen) (hA : FR n D a F) (kk : ∀ a', FR n D a' ((t, str (bts xs)) :: F) → wpList P ops Q rest a' w) (h_ : (o.op, ev F x, o.dst, o.guard, Nat.blt t n) = (.convert xt yt x, some (.slice A m c), some t, none, true)) : wpList P ops Q (o :: rest) a w := x_b2s (hs := hs) (he := he) (hd' := hd') (hr := hr) (hA := hA) (kk := kk) (congrArg (·.1) h_) (congrArg (·.2.1) h_) (congrArg (·.2.2.1) h_) (congrArg (·.2.2.2.1) h_) (congrArg (·.2.2.2.2) h_)
theorem y_b2s {A : Option Addr} {m c : Nat} {xs : List Int} (hs : P.underlying xt = some (.slice e)) (he : P.underlying e = some (.int .u8)) (hd' : P.underlying yt = some .string) (hr : Rd (kI .u8) w A xs ∧ xs.length = m ∧ m ≤ c ∧ c ≤ maxLen) (hA : FR n D a F)
  (ho : o.op = .convert xt yt x := by rfl) (hx : ev F x = some (.slice A m c) := by rfl) : RunV P o a w (str (bts xs)) := r_b2s hs he hd' hr ho (hA.ev hx)
def ownm (e : TypeId) (A : Option Addr) (n c : Nat) (xs : List Int) : HP where
 P w S := xs.length = n ∧ n ≤ c ∧ c ≤ maxLen ∧ ∃ g, A = some ⟨g, 0, none⟩ ∧ S g ∧ RdA (kI .u8) w ⟨g, 0, none⟩ xs
 fr h hk := by
  obtain ⟨h1, h2, h3, g, h4, h5, h6⟩ := h
  refine ⟨h1, h2, h3, g, h4, h5, fun j x hx => ?_⟩
  obtain ⟨cs, hV, hc⟩ := h6 j x hx
  exact ⟨cs, hV, fun q u hu => by rw [← hc q u hu]; exact World.cell?_of_block (by rw [add_block]; exact hk _ h5)⟩
 mono h hs := by
  obtain ⟨h1, h2, h3, g, h4, h5, h6⟩ := h
  exact ⟨h1, h2, h3, g, h4, hs _ h5, h6⟩
theorem RdL.ownm {A : Option Addr} {m c : Nat} {xs : List Int} (i : Nat) (hi : L[i]? = some (E.ownm e A m c xs)) (h : SH r L w) : RdL L (kI .u8) A m c xs := by
 obtain ⟨S, h1, h2, h3, g, hA, h5, h6⟩ := h.get i hi
 refine ⟨h1, by omega, h3, fun w' S' h' _ => ?_⟩
 obtain ⟨S2, q1, q2, q3, g2, hA2, q5, q6⟩ := SH.getL i hi h'
 exact ⟨_, hA2, q6⟩
theorem SH.freezem {Z : Nat → Prop} {wz : World} {A : Option Addr} {m c : Nat} {xs : List Int} (h : SH r (E.ownm e A m c xs :: zone Z wz :: L) w) :
  ∃ Z' wz', SH r (zone Z' wz' :: L) w ∧ Imm Z' wz' (kI .u8) A m c xs ∧ Sub Z wz Z' wz' := by
 obtain ⟨S1, S2, h1, h2, hd, ⟨q1, q2, q3, g, q4, q5, q6⟩, S3, S4, h3, h4, hd', hB, hL⟩ := h.sep
 exact ⟨fun k => S1 k ∨ S3 k, w, ⟨h.os, h.tape, h.output, fun k => S1 k ∨ S3 k, S4, fun k q => q.elim (h1 k) (fun q => h2 k (h3 k q)), fun k q => h2 k (h4 k q), fun k q q4 => q.elim (fun q => hd k q (h4 k q4)) (fun q => hd' k q q4),
  ⟨fun _ q => q, fun _ _ => rfl⟩, hL⟩, ⟨q1, by omega, q3, fun hpos => ⟨_, q4, .inl q5, q6⟩⟩, fun k hk => ⟨.inr (hB.1 k hk), hB.2 k hk⟩⟩
theorem r_neIfNil {ty : TypeId} {v0 : Value} {ms : Array (String × TypeId)} (hu : P.underlying xt = some (.interface ms)) (ho : o.op = .binOp .neq xt x y yt) (hx : a.eval x = .iface ty v0) (hy : a.eval y = .nilIface) : RunV P o a w (.bool true) :=
 r_bin ho hx hy fun w => by
  show (do pure (.bool (!(← Op.equal xt (.iface ty v0) .nilIface))) : Sem Value).run P w = _
  rw [Sem.run_bind, equal_of (b := false) fun d => by simp [Op.equalIn, run_underlying hu]]; rfl
theorem r_neNilIf {ms : Array (String × TypeId)} (hu : P.underlying xt = some (.interface ms)) (ho : o.op = .binOp .neq xt x (.const .nilIface) yt) (hx : a.eval x = .nilIface) : RunV P o a w (.bool false) := by
 unfold RunV execOp; rw [ho]
 simp only [hx, show a.eval (.const .nilIface) = .nilIface from rfl]
 have h1 : (eqGuard .neq xt x (.const .nilIface) .nilIface .nilIface).run P w = .ok () w := by
  unfold eqGuard; cases x <;> simp
 have h2 : (binOp .neq xt .nilIface .nilIface).run P w = .ok (.bool false) w := by
  show (do pure (.bool (!(← Op.equal xt .nilIface .nilIface))) : Sem Value).run P w = _
  rw [Sem.run_bind, equal_of (b := true) fun d => by simp [Op.equalIn, run_underlying hu]]; rfl
 simp only [Sem.run_bind, h1, Result.andThen_ok, h2]
 rfl
theorem r_typeAssert {xty ty : TypeId} {v0 : Value} {ds : TypeDesc} (hu : P.underlying ty = some ds) (hn : (match ds with | .interface _ => false | _ => true) = true) (ho : o.op = .typeAssert x xty ty true) (hx : a.eval x = .iface ty v0) : RunV P o a w (.tuple #[v0, .bool true]) := by
 unfold RunV execOp; rw [ho]
 simp only [hx, Instr.typeAssert, Sem.run_bind, run_underlying hu, Result.andThen_ok]
 cases ds <;> first | (simp; done) | cases hn
theorem Ret.mono_ {f : FuncId} {args : Array Value} {R R' : Value → World → Prop} (h : Ret P f args w R) (hr : ∀ v w', R v w' → R' v w') : Ret P f args w R' :=
 Calls.mono h fun e w' ⟨v, he, hR⟩ => ⟨v, he, hr v w' hR⟩
theorem SH.unpure {p : Prop} (h : SH r (pure' p :: L) w) : p ∧ SH r L w := by
 obtain ⟨S1, S2, h1, h2, hd, hA, hL⟩ := h.sep
 exact ⟨hA, h.tail⟩
theorem SH.pure_ {p : Prop} (hp : p) (h : SH r L w) : SH r (pure' p :: L) w :=
 ⟨h.os, h.tape, h.output, fun _ => False, _, fun _ h => h.elim, fun _ h => h, fun _ h => h.elim, hp, h.sep⟩
end
abbrev Hd := Option Addr × Nat × Nat
def kE {α : Type} (dp : Kd (α × Hd)) : Kd α where
 sz := dp.sz
 V x cs := ∃ h, dp.V (x, h) cs
 len h := by obtain ⟨q, h⟩ := h; exact dp.len h
 one h := by obtain ⟨q, h⟩ := h; exact dp.one h
section
variable {r w : World} {L : List HP} {α β : Type} {dp : Kd (α × Hd)} {d : Kd β} {e e' : TypeId} {g : α → List β} {A : Option Addr} {n c : Nat} {xs : List α} {ps : List (α × Hd)}
def inn (d : Kd β) (e' : TypeId) (g : α → List β) (p : α × Hd) : HP := own d e' p.2.1 p.2.2.1 p.2.2.2 (g p.1)
def rows (d : Kd β) (e' : TypeId) (g : α → List β) (ps : List (α × Hd)) : HP := star (ps.map (inn d e' g))
def own2 (dp : Kd (α × Hd)) (d : Kd β) (e' : TypeId) (g : α → List β) (e : TypeId) (A : Option Addr) (n c : Nat) (xs : List α) : HP :=
 ex fun ps : List (α × Hd) => star [own dp e A n c ps, rows d e' g ps, pure' (ps.map Prod.fst = xs)]
theorem SH.tl {B : HP} {L L' : List HP} (h : SH r (B :: L) w) (hi : ∀ S, Sep L w S → Sep L' w S) : SH r (B :: L') w := by
 obtain ⟨S1, S2, h1, h2, hd, hB, hL⟩ := h.sep
 exact ⟨h.os, h.tape, h.output, S1, S2, h1, h2, hd, hB, hi _ hL⟩
theorem SH.sh {L' : List HP} (h : SH r L w) (hi : ∀ S, Sep L w S → Sep L' w S) : SH r L' w := ⟨h.os, h.tape, h.output, hi _ h.sep⟩
theorem Sep.unstar : ∀ {Ls L : List HP} {S : Nat → Prop}, Sep (E.star Ls :: L) w S → Sep (Ls ++ L) w S
 | [], L, S, ⟨S1, S2, h1, h2, hd, hA, hL⟩ => hL.mono h2
 | B :: Ls, L, S, ⟨S1, S2, h1, h2, hd, ⟨T1, T2, g1, g2, gd, hB, hLs⟩, hL⟩ =>
  ⟨T1, fun k => T2 k ∨ S2 k, fun k q => h1 k (g1 k q), fun k q => q.elim (fun q => h1 k (g2 k q)) (fun q => h2 k q), fun k q q2 => q2.elim (gd k q) (fun q2 => hd k (g1 k q) q2), hB,
   Sep.unstar (Ls := Ls) ⟨T2, S2, fun _ => .inl, fun _ => .inr, fun k q q2 => hd k (g2 k q) q2, hLs, hL⟩⟩
theorem Sep.tl {B : HP} {L L' : List HP} {S : Nat → Prop} (h : Sep (B :: L) w S) (hi : ∀ S, Sep L w S → Sep L' w S) : Sep (B :: L') w S := by
 obtain ⟨S1, S2, h1, h2, hd, hB, hL⟩ := h
 exact ⟨S1, S2, h1, h2, hd, hB, hi _ hL⟩
theorem rows_cons {p : α × Hd} {S : Nat → Prop} : Sep (rows d e' g (p :: ps) :: L) w S ↔ Sep (inn d e' g p :: rows d e' g ps :: L) w S := by
 constructor
 ·intro h
  have h1 : Sep (inn d e' g p :: (ps.map (inn d e' g) ++ L)) w S := Sep.unstar (Ls := (p :: ps).map (inn d e' g)) h
  exact h1.tl fun S hS => Sep.star hS
 ·intro h
  have h1 : Sep (inn d e' g p :: (ps.map (inn d e' g) ++ L)) w S := h.tl fun S hS => Sep.unstar hS
  exact Sep.star (Ls := (p :: ps).map (inn d e' g)) h1
theorem rows_erase : ∀ {ps : List (α × Hd)} {i : Nat} {p : α × Hd} {L : List HP} {S : Nat → Prop}, ps[i]? = some p → (Sep (rows d e' g ps :: L) w S ↔ Sep (inn d e' g p :: rows d e' g (ps.eraseIdx i) :: L) w S)
 | [], i, p, L, S, h => by simp at h
 | q :: ps, 0, p, L, S, h => by
  simp only [List.getElem?_cons_zero, Option.some.injEq] at h
  subst h
  exact rows_cons
 | q :: ps, i + 1, p, L, S, h => by
  have ih : ∀ {S}, Sep (rows d e' g ps :: L) w S ↔ Sep (inn d e' g p :: rows d e' g (ps.eraseIdx i) :: L) w S := rows_erase (by simpa using h)
  rw [rows_cons, List.eraseIdx_cons_succ]
  constructor
  ·intro h
   exact (Sep.swap (h.tl fun S hS => ih.1 hS)).tl fun S hS => rows_cons.2 hS
  ·intro h
   exact (Sep.swap (h.tl fun S hS => rows_cons.1 hS)).tl fun S hS => ih.2 hS
theorem rows_set {i : Nat} {p : α × Hd} {S : Nat → Prop} (hi : i < ps.length) (h : Sep (inn d e' g p :: rows d e' g (ps.eraseIdx i) :: L) w S) : Sep (rows d e' g (ps.set i p) :: L) w S := by
 have e1 : (ps.set i p)[i]? = some p := List.getElem?_set_self hi
 rw [rows_erase e1, List.eraseIdx_set_eq]
 exact h
theorem fst_at {i : Int} {x : α} (hps : ps.map Prod.fst = xs) (hx : at_ xs i = some x) : ∃ A' n' c', at_ ps i = some (x, A', n', c') := by
 have h := (at_some hx).2.2
 have h0 := (at_some hx).1
 rw [← hps, List.getElem?_map] at h
 cases hq : ps[i.toNat]? with
 | none => rw [hq] at h; cases h
 | some q => rw [hq] at h; cases h; exact ⟨q.2.1, q.2.2.1, q.2.2.2, by unfold at_; rw [if_pos h0]; exact hq⟩
theorem own2_open (h : SH r (own2 dp d e' g e A n c xs :: L) w) : ∃ ps, ps.map Prod.fst = xs ∧ SH r (own dp e A n c ps :: rows d e' g ps :: L) w := by
 obtain ⟨ps, h⟩ := h.unex
 have h1 : SH r (own dp e A n c ps :: rows d e' g ps :: pure' (ps.map Prod.fst = xs) :: L) w := h.unstar
 obtain ⟨S, hS⟩ := h1.get 2 rfl
 exact ⟨ps, hS, h1.tl fun S hS => hS.tl fun S hS => by
  obtain ⟨S1, S2, h1, h2, hd, hA, hL⟩ := hS
  exact hL.mono h2⟩
theorem own2_mk (hps : ps.map Prod.fst = xs) (h : SH r (own dp e A n c ps :: rows d e' g ps :: L) w) : SH r (own2 dp d e' g e A n c xs :: L) w := by
 refine SH.ex ps (SH.star (Ls := [own dp e A n c ps, rows d e' g ps, pure' (ps.map Prod.fst = xs)]) (h.tl fun S hS => hS.tl fun S hS => ?_))
 exact ⟨fun _ => False, S, fun _ h => h.elim, fun _ h => h, fun _ h => h.elim, hps, hS⟩
theorem own2_out {i : Int} {x : α} (h : SH r (own2 dp d e' g e A n c xs :: L) w) (hx : at_ xs i = some x) :
  ∃ ps A' n' c', ps.map Prod.fst = xs ∧ at_ ps i = some (x, A', n', c') ∧ SH r (own dp e A n c ps :: own d e' A' n' c' (g x) :: rows d e' g (ps.eraseIdx i.toNat) :: L) w := by
 obtain ⟨ps, hps, h⟩ := own2_open h
 obtain ⟨A', n', c', hp⟩ := fst_at hps hx
 exact ⟨ps, A', n', c', hps, hp, h.tl fun S hS => (rows_erase (at_some hp).2.2).1 hS⟩
theorem own2_in0 {i : Int} {x : α} {A' : Option Addr} {n' c' : Nat} (hps : ps.map Prod.fst = xs) (hp : at_ ps i = some (x, A', n', c')) (h : SH r (own dp e A n c ps :: own d e' A' n' c' (g x) :: rows d e' g (ps.eraseIdx i.toNat) :: L) w) :
  SH r (own2 dp d e' g e A n c xs :: L) w := own2_mk hps (h.tl fun S hS => (rows_erase (at_some hp).2.2).2 hS)
theorem own2_in {i : Int} {p : α × Hd} {x' : α} {A' : Option Addr} {n' c' : Nat} (hps : ps.map Prod.fst = xs) (hp : at_ ps i = some p) (h : SH r (own dp e A n c (ps.set i.toNat (x', A', n', c')) :: own d e' A' n' c' (g x') :: rows d e' g (ps.eraseIdx i.toNat) :: L) w) :
  SH r (own2 dp d e' g e A n c (xs.set i.toNat x') :: L) w := by
 refine own2_mk (ps := ps.set i.toNat (x', A', n', c')) ?_ (h.tl fun S hS => rows_set (List.getElem?_eq_some_iff.1 (at_some hp).2.2).1 hS)
 rw [List.map_set, hps]
theorem Lay.fst {dp : Kd (α × Hd)} : ∀ {ps : List (α × Hd)} {cs : List Value}, Lay dp ps cs → Lay (kE dp) (ps.map Prod.fst) cs
 | [], _, h => h
 | p :: ps, _, ⟨c1, c2, e, hV, hL⟩ => ⟨c1, c2, e, ⟨p.2, hV⟩, Lay.fst hL⟩
theorem Rd.fst {w : World} (hps : ps.map Prod.fst = xs) (h : Rd dp w A ps) : Rd (kE dp) w A xs := by
 subst hps
 intro hpos
 obtain ⟨ad, rfl, hr⟩ := h (by simpa using hpos)
 refine ⟨ad, rfl, fun j x hx => ?_⟩
 rw [List.getElem?_map] at hx
 cases hq : ps[j]? with
 | none => rw [hq] at hx; cases hx
 | some q =>
  rw [hq] at hx
  cases hx
  obtain ⟨cs, hV, hc⟩ := hr j q hq
  exact ⟨cs, ⟨q.2, hV⟩, hc⟩
theorem SH.rdp (hS : SH r L w) (q : Nat) (h : L[q]? = some (own dp e A n c ps)) (hps : ps.map Prod.fst = xs) : Rd (kE dp) w A xs ∧ xs.length = n ∧ n ≤ c ∧ c ≤ maxLen := by
 obtain ⟨h1, h2, h3, h4⟩ := hS.rd q h
 exact ⟨h1.fst hps, by rw [← hps, List.length_map]; exact h2, h3, h4⟩
theorem own2_nil (h : SH r L w) : SH r (own2 dp d e' g e none 0 0 [] :: L) w := own2_mk (ps := []) rfl ((SH.nil_own h).tl fun S hS => Sep.star (Ls := []) hS)
end
end Go.Proofs.YtffdckhgkhhbjaaGreatDoor.E
namespace Go.Proofs.YtffdckhgkhhbjaaGreatDoor.E
open Go Go.RowKit Go.Lib
set_option linter.unusedVariables false
set_option linter.unusedSimpArgs false
section
variable {α : Type} {d : Kd α}
def LayO (d : Kd α) : List (Option α) → List Value → Prop
 | [], cs => cs = []
 | o :: os, cs => ∃ c1 c2, cs = c1 ++ c2 ∧ c1.length = d.sz ∧ (∀ x, o = some x → d.V x c1) ∧ LayO d os c2
theorem LayO.length : ∀ {os : List (Option α)} {cs : List Value}, LayO d os cs → cs.length = os.length * d.sz
 | [], _, h => by cases h; simp
 | o :: os, _, ⟨c1, c2, e, hl, hV, hL⟩ => by rw [e, List.length_append, hl, LayO.length hL, List.length_cons, Nat.add_mul]; omega
theorem LayO.of_lay : ∀ {xs : List α} {cs : List Value}, Lay d xs cs → LayO d (xs.map some) cs
 | [], _, h => h
 | x :: xs, _, ⟨c1, c2, e, hV, hL⟩ => ⟨c1, c2, e, d.len hV, fun y hy => by cases hy; exact hV, LayO.of_lay hL⟩
theorem LayO.lay : ∀ {xs : List α} {cs : List Value}, LayO d (xs.map some) cs → Lay d xs cs
 | [], _, h => h
 | x :: xs, _, ⟨c1, c2, e, hl, hV, hL⟩ => ⟨c1, c2, e, hV x rfl, LayO.lay hL⟩
theorem LayO.none_ : ∀ (m : Nat) {cs : List Value}, cs.length = m * d.sz → LayO d (List.replicate m none) cs
 | 0, cs, h => List.eq_nil_of_length_eq_zero (by simpa using h)
 | m + 1, cs, h => by
  rw [Nat.add_mul, Nat.one_mul] at h
  exact ⟨cs.take d.sz, cs.drop d.sz, (List.take_append_drop _ _).symm, by rw [List.length_take]; omega, (fun x hx => nomatch hx), LayO.none_ m (by rw [List.length_drop]; omega)⟩
theorem LayO.append : ∀ {os ps : List (Option α)} {c1 c2 : List Value}, LayO d os c1 → LayO d ps c2 → LayO d (os ++ ps) (c1 ++ c2)
 | [], _, _, _, h, h2 => by cases h; exact h2
 | o :: os, ps, _, c2, ⟨q1, q2, e, hl, hV, hL⟩, h2 => ⟨q1, q2 ++ c2, by rw [e, List.append_assoc], hl, hV, LayO.append hL h2⟩
theorem LayO.take : ∀ {os : List (Option α)} {cs : List Value}, LayO d os cs → ∀ m, LayO d (os.take m) (cs.take (m * d.sz))
 | [], _, h, m => by cases h; simp [LayO]
 | o :: os, _, ⟨c1, c2, e, hl, hV, hL⟩, 0 => by simp [LayO]
 | o :: os, _, ⟨c1, c2, e, hl, hV, hL⟩, m + 1 => by
  subst e
  refine ⟨c1, _, ?_, hl, hV, LayO.take hL m⟩
  rw [show (m + 1) * d.sz = c1.length + m * d.sz by rw [hl, Nat.add_mul]; omega, List.take_append, List.take_of_length_le (by omega), Nat.add_sub_cancel_left]
theorem LayO.drop : ∀ {os : List (Option α)} {cs : List Value}, LayO d os cs → ∀ m, LayO d (os.drop m) (cs.drop (m * d.sz))
 | [], _, h, m => by cases h; simp [LayO]
 | o :: os, cs, h, 0 => by simpa using h
 | o :: os, _, ⟨c1, c2, e, hl, hV, hL⟩, m + 1 => by
  subst e
  show LayO d (os.drop m) _
  rw [show (m + 1) * d.sz = c1.length + m * d.sz by rw [hl, Nat.add_mul]; omega, List.drop_append, List.drop_eq_nil_of_le (show c1.length ≤ c1.length + m * d.sz by omega), List.nil_append, Nat.add_sub_cancel_left]
  exact LayO.drop hL m
def row (d : Kd α) (e : TypeId) (g c : Nat) (os : List (Option α)) : HP where
 P w S := (S g ∧ os.length = c ∧ c ≤ maxLen) ∧ ∃ cur : Array Value, w.heap[g]? = some (.cells cur e (0, 0)) ∧ LayO d os cur.toList
 fr h hk := ⟨h.1, by obtain ⟨cur, h1, h2⟩ := h.2; exact ⟨cur, (hk _ h.1.1).trans h1, h2⟩⟩
 mono h hs := ⟨⟨hs _ h.1.1, h.1.2⟩, h.2⟩
end
section
variable {r w : World} {L : List HP} {α : Type} {d : Kd α} {e : TypeId} {A : Option Addr} {n c g : Nat} {xs : List α} {os : List (Option α)}
theorem own_row (hc : 0 < c) (h : SH r (own d e A n c xs :: L) w) : ∃ g, A = some ⟨g, 0, none⟩ ∧ SH r (row d e g c (xs.map some ++ List.replicate (c - n) none) :: L) w := by
 obtain ⟨S1, S2, h1, h2, hd, ⟨hn, ⟨inner, hL', ho⟩, hS⟩, hL⟩ := h.sep
 subst hn
 rcases ho.2 with ⟨hv, _⟩ | ⟨g, cap, cur, hv, _, hh, hnc, hcm, hs, ht⟩
 ·injection hv with _ _ h3; omega
 ·injection hv with hA _ hc'
  subst hA hc'
  refine ⟨g, rfl, h.os, h.tape, h.output, S1, S2, h1, h2, hd, ⟨⟨hS _ rfl, by simp; omega, hcm⟩, cur, hh, ?_⟩, hL⟩
  have e1 : cur.toList = inner ++ cur.toList.drop (xs.length * d.sz) := by rw [← ht, List.take_append_drop]
  rw [e1]
  refine (LayO.of_lay hL').append (LayO.none_ _ ?_)
  rw [List.length_drop, Array.length_toList, hs, Nat.sub_mul]
theorem row_own (h : SH r (row d e g c os :: L) w) (hx : os.take xs.length = xs.map some) (hn : xs.length = n) : SH r (own d e (some ⟨g, 0, none⟩) n c xs :: L) w := by
 refine h.imp fun S hS => ?_
 obtain ⟨⟨hg, hl, hcm⟩, cur, hh, hLO⟩ := hS
 have hle : xs.length ≤ c := by
  have := congrArg List.length hx
  rw [List.length_take, List.length_map] at this
  omega
 refine own_new hh hg hn hle hcm (by have := hLO.length; simpa [hl] using this) ?_
 have := hLO.take xs.length
 rw [hx] at this
 exact this.lay
theorem row_rd {lo : Nat} {ys : List α} (h : SH r L w) (q : Nat) (hq : L[q]? = some (row d e g c os)) (hy : (os.drop lo).take ys.length = ys.map some) : Rd d w (some ⟨g, lo * d.sz, none⟩) ys := by
 obtain ⟨S, ⟨hg, hl, hcm⟩, cur, hh, hLO⟩ := h.get q hq
 intro _
 have h1 := (hLO.drop lo).take ys.length
 rw [hy] at h1
 refine ⟨_, rfl, RdA.of_lay h1.lay fun j u hu => ?_⟩
 rw [add_mk]
 simp only [World.cell?, hh]
 rw [List.getElem?_take] at hu
 split at hu
 ·rw [List.getElem?_drop] at hu
  simpa using hu
 ·cases hu
end
section
variable {P : Program} {r w : World} {L : List HP} {α : Type} {d : Kd α} {e t : TypeId} {n c g : Nat} {os : List (Option α)} {o : Oper} {a : Act} {K : Act → World → Prop} {Q : Exit → Act → World → Prop} {x y : Operand}
theorem row_put {lo : Nat} {ys : List α} {cells : List Value} {L' : List HP} (hS : SH r (row d e g c os :: L') w) (hlo : lo + ys.length ≤ c) (hL : Lay d ys cells) {cur : Array Value} (hh : w.heap[g]? = some (.cells cur e (0, 0))) :
  SH r (row d e g c (os.take lo ++ ys.map some ++ os.drop (lo + ys.length)) :: L') (w.setRow g (cur.toList.take (lo * d.sz) ++ cells ++ cur.toList.drop (lo * d.sz + cells.length)).toArray) := by
 obtain ⟨S1, S2, h1, h2, hd, ⟨⟨hg, hl, hcm⟩, cur', hh', hLO⟩, hsep⟩ := hS.sep
 rw [hh] at hh'
 cases hh'
 refine hS.upd (w' := w.setRow g (cur.toList.take (lo * d.sz) ++ cells ++ cur.toList.drop (lo * d.sz + cells.length)).toArray) h1 h2 hd hsep rfl rfl rfl (by simp [World.setRow]) (fun k hk hk1 => setRow_other fun e => hk1 (by rw [e]; exact hg)) (Ls := [row d e g c (os.take lo ++ ys.map some ++ os.drop (lo + ys.length))]) fun S hS1 _ _ =>
  ⟨S, fun _ => False, fun _ h => h, fun _ h => h.elim, fun _ _ h => h, ⟨⟨hS1 _ hg, by simp; omega, hcm⟩, _, setRow_heap w g _ _ e (0, 0) hh, ?_⟩, trivial⟩
 rw [List.toList_toArray, hL.length, ← Nat.add_mul]
 exact ((hLO.take lo).append (LayO.of_lay hL)).append (hLO.drop (lo + ys.length))
theorem row_cur (hS : SH r (row d e g c os :: L) w) : ∃ cur : Array Value, w.heap[g]? = some (.cells cur e (0, 0)) ∧ cur.size = c * d.sz ∧ os.length = c := by
 obtain ⟨S, ⟨hg, hl, hcm⟩, cur, hh, hLO⟩ := hS.get 0 rfl
 exact ⟨cur, hh, by have := hLO.length; rw [hl] at this; simpa using this, hl⟩
theorem rd_cells {A : Option Addr} {ys : List α} (hr : Rd d w A ys) (h : 0 < ys.length) : ∃ ad cells, A = some ad ∧ Lay d ys cells ∧ ∀ j u, cells[j]? = some u → w.cell? (ad.add j) = some u := by
 obtain ⟨ad, hA, hra⟩ := hr h
 obtain ⟨cells, hL, hc⟩ := hra.cells
 exact ⟨ad, cells, hA, hL, hc⟩
theorem e_copy (i : Nat) {lo dl dc n2 c2 : Nat} {A2 : Option Addr} {ys : List α} {t' : TypeId} {L' : List HP} (hS : SH r L w) (hL : pk i L = row d e g c os :: L') (ht : P.underlying t = some (.slice e)) (hi : (P.info? e).map (·.size) = some d.sz)
  (ho : o.op = .call { callee := .builtin .copy, args := #[x, y], argTypes := #[t, t'] }) (hx : a.eval x = .slice (some ⟨g, lo * d.sz, none⟩) dl dc) (hy : a.eval y = .slice A2 n2 c2) (hr : Rd d w A2 (ys.take (min n2 dl))) (hk : 0 < min n2 dl) (hlen : min n2 dl ≤ ys.length)
  (hlo : lo + min n2 dl ≤ c) (hK : ∀ v w', SH r (row d e g c (os.take lo ++ (ys.take (min n2 dl)).map some ++ os.drop (lo + min n2 dl)) :: L') w' → K (a.put o.dst v) w') : o.wp P a w K Q := by
 have hS' := hS.pk i
 rw [hL] at hS'
 have hyl : (ys.take (min n2 dl)).length = min n2 dl := by rw [List.length_take]; omega
 obtain ⟨ad, cells, rfl, hLy, hc⟩ := rd_cells hr (by omega)
 obtain ⟨cur, hh, hcs, hol⟩ := row_cur hS'
 obtain ⟨inf, hi1, hi2⟩ := Option.map_eq_some_iff.1 hi
 have hcl : cells.length = min n2 dl * d.sz := by rw [hLy.length, hyl]
 have hmul : (lo + min n2 dl) * d.sz ≤ c * d.sz := Nat.mul_le_mul_right _ hlo
 rw [Nat.add_mul] at hmul
 have hst := run_storeCells_at P g (lo * d.sz) e cells 0 cur w hh (by omega) hLy.one
 have hld := run_loadCells_list (P := P) w ad cells hc
 rw [hcl] at hld
 have hrun : (Builtin.copy_ #[t, t'] o.type #[.slice (some ⟨g, lo * d.sz, none⟩) dl dc, .slice (some ad) n2 c2]).run P w = .ok (goInt ((Nat.min n2 dl : Nat) : Int)) (w.setRow g (cur.toList.take (lo * d.sz) ++ cells ++ cur.toList.drop (lo * d.sz + cells.length)).toArray) := by
  simp only [Nat.add_zero] at hst
  have hld' : (loadCells ad (Nat.min n2 dl * d.sz)).run P w = .ok cells.toArray w := hld
  simp [Builtin.copy_, run_underlying ht, sizeOf, typeInfo, hi1, hi2, Builtin.lenOf, Builtin.firstCells, hld', hst]
 have h : (execOp a.eval o).run P w = .ok (.value (goInt ((Nat.min n2 dl : Nat) : Int))) (w.setRow g (cur.toList.take (lo * d.sz) ++ cells ++ cur.toList.drop (lo * d.sz + cells.length)).toArray) := by
  unfold execOp; rw [ho]
  simp only [resolve, Sem.run_bind, Sem.run_pure, Result.andThen_ok, invoke]
  have e1 : #[x, y].map a.eval = #[.slice (some ⟨g, lo * d.sz, none⟩) dl dc, .slice (some ad) n2 c2] := by simp [hx, hy]
  rw [e1]
  show (do pure (.value (← Builtin.copy_ #[t, t'] o.type _)) : Sem Next).run P w = _
  rw [Sem.run_bind, hrun]
  rfl
 unfold Oper.wp
 rw [h]
 have := row_put hS' (lo := lo) (by rw [hyl]; exact hlo) hLy hh
 rw [hyl] at this
 exact hK _ _ this
theorem zeroCells_toList (z : Array Value) (k : Nat) : (Builtin.zeroCells z k).toList = (List.replicate k z.toList).flatten := by
 apply List.ext_getElem?
 intro i
 rcases Nat.lt_or_ge i (k * z.size) with hi | hi
 ·have hz : 0 < z.size := Nat.pos_of_ne_zero fun h => by rw [h] at hi; omega
  have hm : i % z.size < z.size := Nat.mod_lt _ hz
  rw [flatten_replicate_get _ _ _ (by simpa using hi)]
  simp [Builtin.zeroCells, hi, hm]
 ·rw [List.getElem?_eq_none (by simp [size_zeroCells, hi]), List.getElem?_eq_none (by simp [List.length_flatten, hi])]
theorem lay_zeros {z : Array Value} {z0 : α} (hz : d.V z0 z.toList) (k : Nat) : Lay d (List.replicate k z0) (Builtin.zeroCells z k).toList := by
 rw [zeroCells_toList]
 induction k with
 | zero => rfl
 | succ k ih => exact ⟨_, _, rfl, hz, ih⟩
theorem e_clear (i : Nat) {lo m mc : Nat} {z : Value} {z0 : α} {L' : List HP} (hS : SH r L w) (hL : pk i L = row d e g c os :: L') (ht : P.underlying t = some (.slice e)) (hi : (P.info? e).bind (·.zero) = some z) (hz : d.V z0 z.cells.toList)
  (ho : o.op = .call { callee := .builtin .clear, args := #[x], argTypes := #[t] }) (hx : a.eval x = .slice (some ⟨g, lo * d.sz, none⟩) m mc) (hm : 0 < m) (hlo : lo + m ≤ c)
  (hK : ∀ v w', SH r (row d e g c (os.take lo ++ (List.replicate m z0).map some ++ os.drop (lo + m)) :: L') w' → K (a.put o.dst v) w') : o.wp P a w K Q := by
 have hS' := hS.pk i
 rw [hL] at hS'
 obtain ⟨cur, hh, hcs, hol⟩ := row_cur hS'
 have hLy := lay_zeros hz m
 obtain ⟨inf, hi1, hi2⟩ := Option.bind_eq_some_iff.1 hi
 have hcl : (Builtin.zeroCells z.cells m).toList.length = m * d.sz := by rw [hLy.length, List.length_replicate]
 have hmul : (lo + m) * d.sz ≤ c * d.sz := Nat.mul_le_mul_right _ hlo
 rw [Nat.add_mul] at hmul
 have hst := run_storeCells_at P g (lo * d.sz) e (Builtin.zeroCells z.cells m).toList 0 cur w hh (by omega) hLy.one
 have hrun : (Builtin.clear_ #[t] o.type #[.slice (some ⟨g, lo * d.sz, none⟩) m mc]).run P w = .ok (.tuple #[]) (w.setRow g (cur.toList.take (lo * d.sz) ++ (Builtin.zeroCells z.cells m).toList ++ cur.toList.drop (lo * d.sz + (Builtin.zeroCells z.cells m).toList.length)).toArray) := by
  simp only [Nat.add_zero] at hst
  obtain ⟨k, rfl⟩ : ∃ k, m = k + 1 := ⟨m - 1, by omega⟩
  simp [Builtin.clear_, run_underlying ht, zeroValue, typeInfo, hi1, hi2, hst]
 have h : (execOp a.eval o).run P w = .ok (.value (.tuple #[])) (w.setRow g (cur.toList.take (lo * d.sz) ++ (Builtin.zeroCells z.cells m).toList ++ cur.toList.drop (lo * d.sz + (Builtin.zeroCells z.cells m).toList.length)).toArray) := by
  unfold execOp; rw [ho]
  simp only [resolve, Sem.run_bind, Sem.run_pure, Result.andThen_ok, invoke]
  have e1 : #[x].map a.eval = #[.slice (some ⟨g, lo * d.sz, none⟩) m mc] := by simp [hx]
  rw [e1]
  show (do pure (.value (← Builtin.clear_ #[t] o.type _)) : Sem Next).run P w = _
  rw [Sem.run_bind, hrun]
  rfl
 unfold Oper.wp
 rw [h]
 have := row_put hS' (lo := lo) (ys := List.replicate m z0) (by rw [List.length_replicate]; exact hlo) hLy hh
 rw [List.length_replicate] at this
 exact hK _ _ this
theorem e_append_row (i : Nat) {k n2 c2 : Nat} {A2 : Option Addr} {ys : List α} {L' : List HP} (hS : SH r L w) (hL : pk i L = row d e g c os :: L') (ht : P.underlying t = some (.slice e)) (hi : (P.info? e).map (·.size) = some d.sz)
  (ho : o.op = .call { callee := .builtin .append, args := #[x, y], argTypes := #[t, t] }) (hx : a.eval x = .slice (some ⟨g, 0, none⟩) k c) (hy : a.eval y = .slice A2 n2 c2) (hr : Rd d w A2 ys) (hn2 : ys.length = n2) (hroom : k + n2 ≤ c)
  (hK : ∀ w', SH r (row d e g c (os.take k ++ ys.map some ++ os.drop (k + n2)) :: L') w' → K (a.put o.dst (.slice (some ⟨g, 0, none⟩) (k + n2) c)) w') : o.wp P a w K Q := by
 subst hn2
 have hS' := hS.pk i
 rw [hL] at hS'
 rcases Nat.eq_zero_or_pos ys.length with h00 | h0
 ·have hy0 := List.eq_nil_of_length_eq_zero h00
  subst hy0
  obtain ⟨inf, hi1, hi2⟩ := Option.map_eq_some_iff.1 hi
  have hrun : (Builtin.append_ #[t, t] o.type #[.slice (some ⟨g, 0, none⟩) k c, .slice A2 0 c2]).run P w = .ok (.slice (some ⟨g, 0, none⟩) k c) w := by
   have hkc : k ≤ c := by simpa using hroom
   have hl0 : ∀ ad, (loadCells ad 0).run P w = .ok #[] w := fun ad => by simp [loadCells, loadCellsFrom]
   cases A2 <;> simp [Builtin.append_, run_underlying ht, sizeOf, typeInfo, hi1, Builtin.lenOf, Builtin.firstCells, hkc, storeCells, hl0]
  have h : (execOp a.eval o).run P w = .ok (.value (.slice (some ⟨g, 0, none⟩) k c)) w := by
   unfold execOp; rw [ho]
   simp only [resolve, Sem.run_bind, Sem.run_pure, Result.andThen_ok, invoke]
   have e1 : #[x, y].map a.eval = #[.slice (some ⟨g, 0, none⟩) k c, .slice A2 0 c2] := by simp [hx, hy]
   rw [e1]
   show (do pure (.value (← Builtin.append_ #[t, t] o.type _)) : Sem Next).run P w = _
   rw [Sem.run_bind, hrun]
   rfl
  unfold Oper.wp
  rw [h]
  have := hK w
  simp only [List.map_nil, List.append_nil, List.length_nil, Nat.add_zero, List.take_append_drop] at this
  exact this hS'
 obtain ⟨ad, cells, rfl, hLy, hc⟩ := rd_cells hr h0
 obtain ⟨cur, hh, hcs, hol⟩ := row_cur hS'
 obtain ⟨inf, hi1, hi2⟩ := Option.map_eq_some_iff.1 hi
 have hmul : (k + ys.length) * d.sz ≤ c * d.sz := Nat.mul_le_mul_right _ hroom
 rw [Nat.add_mul] at hmul
 have hrun := run_append_room (P := P) w t o.type e inf ht hi1 g k c cur hh ad ys.length c2 cells (by rw [hi2]; exact hLy.length) hc hLy.one hroom (by rw [hi2, hLy.length]; omega)
 rw [hi2] at hrun
 have h : (execOp a.eval o).run P w = .ok (.value (.slice (some ⟨g, 0, none⟩) (k + ys.length) c)) (w.setRow g (cur.toList.take (k * d.sz) ++ cells ++ cur.toList.drop (k * d.sz + cells.length)).toArray) := by
  unfold execOp; rw [ho]
  simp only [resolve, Sem.run_bind, Sem.run_pure, Result.andThen_ok, invoke]
  have e1 : #[x, y].map a.eval = #[.slice (some ⟨g, 0, none⟩) k c, .slice (some ad) ys.length c2] := by simp [hx, hy]
  rw [e1]
  show (do pure (.value (← Builtin.append_ #[t, t] o.type _)) : Sem Next).run P w = _
  rw [Sem.run_bind, hrun]
  rfl
 unfold Oper.wp
 rw [h]
 exact hK _ (row_put hS' hroom hLy hh)
theorem e_append_zeros {k m cS bytes : Nat} {A : Option Addr} {z : Value} {z0 : α} {kq kn : IntKind} {tn : TypeId} {ys : List α} (hS : SH r L w) (ht : P.underlying t = some (.slice e)) (htn : P.underlying tn = some (.int kn))
  (hi : (P.info? e).map (fun i => (i.zero, i.size, i.bytes)) = some (some z, d.sz, bytes)) (hz : d.V z0 z.cells.toList) (ho : o.op = .call { callee := .builtin .append, args := #[x, y], argTypes := #[t, tn] })
  (hx : a.eval x = .slice A k cS) (hy : a.eval y = .int kq (m : Int)) (hr : Rd d w A ys) (hk : ys.length = k) (h0 : 0 < m) (hs : 0 < d.sz) (hg : cS < k + m) (hb : (k + m) * bytes ≤ 140737488355328) (hbp : 0 < bytes)
  (hK : ∀ g' c' w', SH r (own d e (some ⟨g', 0, none⟩) (k + m) c' (ys ++ List.replicate m z0) :: L) w' → K (a.put o.dst (.slice (some ⟨g', 0, none⟩) (k + m) c')) w') : o.wp P a w K Q := by
 subst hk
 obtain ⟨inf, hi1, hi2, hi3, hi4⟩ := info_parts hi
 obtain ⟨cells, hLy, hold⟩ : ∃ cells, Lay d ys cells ∧ (Builtin.firstCells inf.size ys.length (.slice A ys.length cS)).run P w.drew = .ok cells.toArray w.drew := by
  rcases Nat.eq_zero_or_pos ys.length with h | h
  ·have := List.eq_nil_of_length_eq_zero h
   subst this
   cases A with
   | none => exact ⟨[], rfl, run_firstCells_none (P := P) (w := w.drew) inf.size 0 0 cS⟩
   | some ad => exact ⟨[], rfl, run_firstCells_some (P := P) (w := w.drew) inf.size 0 ad 0 cS [] (by simp) (fun j u hu => by simp at hu)⟩
  ·obtain ⟨ad', cells, hA, hLy, hc⟩ := rd_cells hr h
   cases hA
   exact ⟨cells, hLy, run_firstCells_some (P := P) (w := w.drew) inf.size ys.length ad' ys.length cS cells (by rw [hi3]; exact hLy.length) hc⟩
 have hle : (ys.length + m) * 1 ≤ (ys.length + m) * bytes := Nat.mul_le_mul_left _ hbp
 have hmb : m * bytes ≤ (ys.length + m) * bytes := Nat.mul_le_mul_right _ (by omega)
 have hrun := run_append_grow_zeros (P := P) w t tn o.type e inf z kq kn ht htn hi1 hi2 A ys.length cS cells hold m h0 (by rw [hi3]; exact hs) hg (by omega) (by rw [hi4]; omega) (by rw [hi4]; exact growslice_fits hg hb)
 have h : (execOp a.eval o).run P w = .ok (.value (.slice (some ⟨w.heap.size, 0, none⟩) (ys.length + m) (grownCap w (ys.length + m) cS e)))
   (w.drew.alloc (.cells (cells.toArray ++ Builtin.zeroCells z.cells m ++ Builtin.zeroCells z.cells (grownCap w (ys.length + m) cS e - (ys.length + m))) e)) := by
  unfold execOp; rw [ho]
  simp only [resolve, Sem.run_bind, Sem.run_pure, Result.andThen_ok, invoke]
  have e1 : #[x, y].map a.eval = #[.slice A ys.length cS, .int kq (m : Int)] := by simp [hx, hy]
  rw [e1]
  show (do pure (.value (← Builtin.append_ #[t, tn] o.type _)) : Sem Next).run P w = _
  rw [Sem.run_bind, hrun]
  rfl
 unfold Oper.wp
 rw [h]
 have hzs : z.cells.size = d.sz := by simpa using d.len hz
 have hge := grownCap_ge w (ys.length + m) cS e
 have hcm : grownCap w (ys.length + m) cS e ≤ maxLen := grownCap_le_maxLen w (ys.length + m) cS e (by simp only [maxLen]; omega)
 generalize hgc : grownCap w (ys.length + m) cS e = cap at *
 refine hK _ _ _ (hS.new (w' := w.drew.alloc (.cells (cells.toArray ++ Builtin.zeroCells z.cells m ++ Builtin.zeroCells z.cells (cap - (ys.length + m))) e)) rfl rfl rfl (by simp) (fun k hk => heap_alloc_old w.drew _ hk) (Ls := [own d e (some ⟨w.heap.size, 0, none⟩) (ys.length + m) cap (ys ++ List.replicate m z0)]) fun S hS' =>
  ⟨S, fun _ => False, fun _ h => h, fun _ h => h.elim, fun _ _ h => h, ?_, trivial⟩)
 have hL2 : Lay d (ys ++ List.replicate m z0) (cells ++ (Builtin.zeroCells z.cells m).toList) := hLy.append (lay_zeros hz m)
 have hl2 := hL2.length
 refine own_new (heap_alloc_new w.drew _) (hS' _ (Nat.le_refl _) (by simp)) (by simp) (by simp; omega) hcm ?_ ?_
 ·simp only [Array.size_append, List.size_toArray, size_zeroCells, hzs, hLy.length, ← Nat.add_mul]
  congr 1
  omega
 ·have e2 : (cells.toArray ++ Builtin.zeroCells z.cells m ++ Builtin.zeroCells z.cells (cap - (ys.length + m))).toList = (cells ++ (Builtin.zeroCells z.cells m).toList) ++ (Builtin.zeroCells z.cells (cap - (ys.length + m))).toList := by simp
  rw [e2, ← hl2, List.take_left]
  exact hL2
def seqO : List (Option α) → Option (List α)
 | [] => some []
 | none :: _ => none
 | some x :: os => (seqO os).map (x :: ·)
theorem seqO_some : ∀ {os : List (Option α)} {ys : List α}, seqO os = some ys → os = ys.map some
 | [], ys, h => by cases h; rfl
 | none :: os, ys, h => by cases h
 | some x :: os, ys, h => by
  unfold seqO at h
  cases hq : seqO os with
  | none => rw [hq] at h; cases h
  | some zs => rw [hq] at h; cases h; rw [seqO_some hq]; rfl
theorem seqO_map : ∀ (ys : List α), seqO (ys.map some) = some ys
 | [] => rfl
 | y :: ys => by show (seqO (ys.map some)).map (y :: ·) = _; rw [seqO_map ys]; rfl
def rdo (os : List (Option α)) (lo k : Nat) : Option (List α) := if lo + k ≤ os.length then seqO ((os.drop lo).take k) else none
theorem rdo_some {lo k : Nat} {ys : List α} (h : rdo os lo k = some ys) : ys.length = k ∧ (os.drop lo).take ys.length = ys.map some ∧ lo + k ≤ os.length := by
 unfold rdo at h
 split at h
 ·have e := seqO_some h
  have hl := congrArg List.length e
  rw [List.length_map, List.length_take, List.length_drop] at hl
  have hk : ys.length = k := by omega
  exact ⟨hk, by rw [hk]; exact e, by assumption⟩
 ·cases h
theorem own_row' {A : Option Addr} {xs : List α} (hc : 0 < c) (h : SH r (own d e A n c xs :: L) w) : ∃ g, A = some ⟨g, 0, none⟩ ∧ SH r (row d e g c (xs.map some ++ List.replicate (c - xs.length) none) :: L) w := by
 obtain ⟨S, hS⟩ := h.get 0 rfl
 have := hS.1
 rw [this]
 exact own_row hc h
theorem rdo_own {xs : List α} {L' : List HP} (h : SH r (row d e g c os :: L') w) (hx : rdo os 0 n = some xs) : SH r (own d e (some ⟨g, 0, none⟩) n c xs :: L') w := by
 obtain ⟨h1, h2, _⟩ := rdo_some hx
 rw [List.drop_zero] at h2
 exact row_own h h2 h1
theorem e_copy_own (i : Nat) {lo dl dc n2 c2 : Nat} {A2 : Option Addr} {xs ys : List α} {t' : TypeId} {L' : List HP} (hS : SH r L w) (hL : pk i L = own d e (some ⟨g, 0, none⟩) n c xs :: L') (ht : P.underlying t = some (.slice e)) (hi : (P.info? e).map (·.size) = some d.sz)
  (ho : o.op = .call { callee := .builtin .copy, args := #[x, y], argTypes := #[t, t'] }) (hx : a.eval x = .slice (some ⟨g, lo * d.sz, none⟩) dl dc) (hy : a.eval y = .slice A2 n2 c2) (hr : Rd d w A2 (ys.take (min n2 dl))) (hk : 0 < min n2 dl) (hlen : min n2 dl ≤ ys.length)
  (hlo : lo + min n2 dl ≤ xs.length) (hK : ∀ v w', SH r (own d e (some ⟨g, 0, none⟩) n c (xs.take lo ++ ys.take (min n2 dl) ++ xs.drop (lo + min n2 dl)) :: L') w' → K (a.put o.dst v) w') : o.wp P a w K Q := by
 have hS' := hS.pk i
 rw [hL] at hS'
 obtain ⟨S, hown⟩ := hS'.get 0 rfl
 have hxn := hown.1
 have hxc := (own_le hown).1
 obtain ⟨g', hg, hrow⟩ := own_row' (by omega) hS'
 injection hg with hg
 injection hg with hg
 subst hg
 refine e_copy 0 hrow rfl ht hi ho hx hy hr hk hlen (by omega) fun v w' hS2 => hK v w' (row_own hS2 ?_ ?_)
 ·have hyl : (ys.take (min n2 dl)).length = min n2 dl := by rw [List.length_take]; omega
  simp only [List.map_append, List.length_append, hyl]
  rw [List.take_append_of_le_length (l₁ := xs.map some) (by rw [List.length_map]; omega), List.drop_append_of_le_length (by rw [List.length_map]; omega), ← List.append_assoc,
   List.take_append_of_le_length (by simp; omega), List.take_of_length_le (by simp; omega)]
  simp [List.map_take, List.map_drop]
 ·simp; omega
theorem slv {lo k sz : Nat} (h : k < c) : (if c = k then some (⟨g, lo * sz, none⟩ : Addr) else (some (⟨g, lo * sz, none⟩ : Addr)).map (·.add (k * sz))) = some ⟨g, (lo + k) * sz, none⟩ := by
 rw [if_neg (by omega)]
 simp [add_mk, Nat.add_mul]
end
section
variable {P : Program} {ops : Array Oper} {Q : Exit → Act → World → Prop} {rest : List Oper} {o : Oper} {a : Act} {w w' : World} {K : Act → World → Prop} {r : World} {L : List HP} {α : Type} {d : Kd α} {e t' t2 : TypeId} {n : Nat} {D : List Deferred} {t : Nat} {v : Value} {F : List (Nat × Value)}
 {c g k : Nat} {os : List (Option α)} {x y lo_ hi_ mx_ : Operand} {A A2 : Option Addr} {n1 c1 n2 c2 : Nat} {xs ys : List α} {L' : List HP}
theorem put_ (hA : FR n D a F) (hd : o.dst = some t) (ht : Nat.blt t n = true) (v : Value) : FR n D (a.put o.dst v) ((t, v) :: F) := by
 rw [hd]; exact hA.put t _ (by have := Nat.le_of_ble_eq_true ht; omega)
theorem cpk {dp dl : Nat} (h1 : ys.length = n2) (h2 : dp = dl) : (ys.take (min ys.length dp)).length = min n2 dl := by subst h1 h2; rw [List.length_take]; omega
theorem Rd.take_ {d : Kd α} (h : Rd d w A ys) (k : Nat) : Rd d w A (ys.take k) := by
 intro hpos
 obtain ⟨ad, e, hr⟩ := h (by rw [List.length_take] at hpos; omega)
 exact ⟨ad, e, hr.take k⟩
theorem e_cpR (i : Nat) {lo dl dc : Nat} {zs : List α} (hS : SH r L w) (hL : pk i L = row d e g c os :: L') (ht : P.underlying t' = some (.slice e)) (hi : (P.info? e).map (·.size) = some d.sz)
  (ho : o.op = .call { callee := .builtin .copy, args := #[x, y], argTypes := #[t', t2] }) (hx : a.eval x = .slice (some ⟨g, lo * d.sz, none⟩) dl dc) (hy : a.eval y = .slice A2 n2 c2) (hr : Rd d w A2 zs) (hz : zs.length = min n2 dl) (hk : 0 < zs.length ∧ lo + zs.length ≤ c)
  (hK : ∀ v w', SH r (row d e g c (os.take lo ++ zs.map some ++ os.drop (lo + zs.length)) :: L') w' → K (a.put o.dst v) w') : o.wp P a w K Q := by
 have e1 : zs.take (min n2 dl) = zs := List.take_of_length_le (by omega)
 refine e_copy (ys := zs) i hS hL ht hi ho hx hy (by rw [e1]; exact hr) (by omega) (by omega) (by omega) fun v w' hS' => hK v w' ?_
 rw [e1, ← hz] at hS'
 exact hS'
theorem e_cpO (i : Nat) {lo dl dc : Nat} {zs : List α} (hS : SH r L w) (hL : pk i L = own d e (some ⟨g, 0, none⟩) n1 c xs :: L') (ht : P.underlying t' = some (.slice e)) (hi : (P.info? e).map (·.size) = some d.sz)
  (ho : o.op = .call { callee := .builtin .copy, args := #[x, y], argTypes := #[t', t2] }) (hx : a.eval x = .slice (some ⟨g, lo * d.sz, none⟩) dl dc) (hy : a.eval y = .slice A2 n2 c2) (hr : Rd d w A2 zs) (hz : zs.length = min n2 dl) (hk : 0 < zs.length ∧ lo + zs.length ≤ xs.length)
  (hK : ∀ v w', SH r (own d e (some ⟨g, 0, none⟩) n1 c (xs.take lo ++ zs ++ xs.drop (lo + zs.length)) :: L') w' → K (a.put o.dst v) w') : o.wp P a w K Q := by
 have e1 : zs.take (min n2 dl) = zs := List.take_of_length_le (by omega)
 refine e_copy_own (ys := zs) i hS hL ht hi ho hx hy (by rw [e1]; exact hr) (by omega) (by omega) (by omega) fun v w' hS' => hK v w' ?_
 rw [e1, ← hz] at hS'
 exact hS'
theorem z_cpR (i : Nat) {lo dl dc : Nat} {zs : List α} (ht : P.underlying t' = some (.slice e)) (hi : (P.info? e).map (·.size) = some d.sz) (hA : FR n D a F) (hS : SH r L w) (hr : Rd d w A2 zs) (hz : zs.length = min n2 dl) (hk : 0 < zs.length ∧ lo + zs.length ≤ c) (hL : pk i L = row d e g c os :: L')
  (kk : ∀ v w', SH r (row d e g c (os.take lo ++ zs.map some ++ os.drop (lo + zs.length)) :: L') w' → K (a.put o.dst v) w')
  (ho : o.op = .call { callee := .builtin .copy, args := #[x, y], argTypes := #[t', t2] } := by rfl) (hx : ev F x = some (.slice (some ⟨g, lo * d.sz, none⟩) dl dc) := by rfl) (hy : ev F y = some (.slice A2 n2 c2) := by rfl) : o.wp P a w K Q :=
 e_cpR i hS hL ht hi ho (hA.ev hx) (hA.ev hy) hr hz hk kk
theorem z_cpR' (i : Nat) {lo dl dc : Nat} {zs : List α} (ht : P.underlying t' = some (.slice e)) (hi : (P.info? e).map (·.size) = some d.sz) (hA : FR n D a F) (hS : SH r L w) (hr : Rd d w A2 zs) (hz : zs.length = min n2 dl) (hk : 0 < zs.length ∧ lo + zs.length ≤ c) (hL : pk i L = row d e g c os :: L')
  (kk : ∀ v w', SH r (row d e g c (os.take lo ++ zs.map some ++ os.drop (lo + zs.length)) :: L') w' → K (a.put o.dst v) w') (h_ : (o.op, ev F x, ev F y) = (.call { callee := .builtin .copy, args := #[x, y], argTypes := #[t', t2] }, some (.slice (some ⟨g, lo * d.sz, none⟩) dl dc), some (.slice A2 n2 c2))) : o.wp P a w K Q := z_cpR (i := i) (ht := ht) (hi := hi) (hA := hA) (hS := hS) (hr := hr) (hz := hz) (hk := hk) (hL := hL) (kk := kk) (congrArg (·.1) h_) (congrArg (·.2.1) h_) (congrArg (·.2.2) h_)
theorem x_cpR (i : Nat) {lo dl dc : Nat} {zs : List α} (ht : P.underlying t' = some (.slice e)) (hi : (P.info? e).map (·.size) = some d.sz) (hA : FR n D a F) (hS : SH r L w) (hr : Rd d w A2 zs) (hz : zs.length = min n2 dl) (hk : 0 < zs.length ∧ lo + zs.length ≤ c) (hL : pk i L = row d e g c os :: L')
  (kk : ∀ v a' w', SH r (row d e g c (os.take lo ++ zs.map some ++ os.drop (lo + zs.length)) :: L') w' → FR n D a' ((t, v) :: F) → wpList P ops Q rest a' w')
  (ho : o.op = .call { callee := .builtin .copy, args := #[x, y], argTypes := #[t', t2] } := by rfl) (hx : ev F x = some (.slice (some ⟨g, lo * d.sz, none⟩) dl dc) := by rfl) (hy : ev F y = some (.slice A2 n2 c2) := by rfl) (hd : o.dst = some t := by rfl) (hg : o.guard = none := by rfl) (hb : Nat.blt t n = true := by rfl) : wpList P ops Q (o :: rest) a w :=
 wl_eff hg fun K hK => e_cpR i hS hL ht hi ho (hA.ev hx) (hA.ev hy) hr hz hk fun v w' hS' => hK _ _ (kk v _ w' hS' (put_ hA hd hb v))
theorem x_cpR' (i : Nat) {lo dl dc : Nat} {zs : List α} (ht : P.underlying t' = some (.slice e)) (hi : (P.info? e).map (·.size) = some d.sz) (hA : FR n D a F) (hS : SH r L w) (hr : Rd d w A2 zs) (hz : zs.length = min n2 dl) (hk : 0 < zs.length ∧ lo + zs.length ≤ c) (hL : pk i L = row d e g c os :: L')
  (kk : ∀ v a' w', SH r (row d e g c (os.take lo ++ zs.map some ++ os.drop (lo + zs.length)) :: L') w' → FR n D a' ((t, v) :: F) → wpList P ops Q rest a' w') (h_ : (o.op, ev F x, ev F y, o.dst, o.guard, Nat.blt t n) = (.call { callee := .builtin .copy, args := #[x, y], argTypes := #[t', t2] }, some (.slice (some ⟨g, lo * d.sz, none⟩) dl dc), some (.slice A2 n2 c2), some t, none, true)) : wpList P ops Q (o :: rest) a w := x_cpR (i := i) (ht := ht) (hi := hi) (hA := hA) (hS := hS) (hr := hr) (hz := hz) (hk := hk) (hL := hL) (kk := kk) (congrArg (·.1) h_) (congrArg (·.2.1) h_) (congrArg (·.2.2.1) h_) (congrArg (·.2.2.2.1) h_) (congrArg (·.2.2.2.2.1) h_) (congrArg (·.2.2.2.2.2) h_)
theorem z_cpO (i : Nat) {lo dl dc : Nat} {zs : List α} (ht : P.underlying t' = some (.slice e)) (hi : (P.info? e).map (·.size) = some d.sz) (hA : FR n D a F) (hS : SH r L w) (hr : Rd d w A2 zs) (hz : zs.length = min n2 dl) (hk : 0 < zs.length ∧ lo + zs.length ≤ xs.length) (hL : pk i L = own d e (some ⟨g, 0, none⟩) n1 c xs :: L')
  (kk : ∀ v w', SH r (own d e (some ⟨g, 0, none⟩) n1 c (xs.take lo ++ zs ++ xs.drop (lo + zs.length)) :: L') w' → K (a.put o.dst v) w')
  (ho : o.op = .call { callee := .builtin .copy, args := #[x, y], argTypes := #[t', t2] } := by rfl) (hx : ev F x = some (.slice (some ⟨g, lo * d.sz, none⟩) dl dc) := by rfl) (hy : ev F y = some (.slice A2 n2 c2) := by rfl) : o.wp P a w K Q :=
 e_cpO i hS hL ht hi ho (hA.ev hx) (hA.ev hy) hr hz hk kk
theorem z_cpO' (i : Nat) {lo dl dc : Nat} {zs : List α} (ht : P.underlying t' = some (.slice e)) (hi : (P.info? e).map (·.size) = some d.sz) (hA : FR n D a F) (hS : SH r L w) (hr : Rd d w A2 zs) (hz : zs.length = min n2 dl) (hk : 0 < zs.length ∧ lo + zs.length ≤ xs.length) (hL : pk i L = own d e (some ⟨g, 0, none⟩) n1 c xs :: L')
  (kk : ∀ v w', SH r (own d e (some ⟨g, 0, none⟩) n1 c (xs.take lo ++ zs ++ xs.drop (lo + zs.length)) :: L') w' → K (a.put o.dst v) w') (h_ : (o.op, ev F x, ev F y) = (.call { callee := .builtin .copy, args := #[x, y], argTypes := #[t', t2] }, some (.slice (some ⟨g, lo * d.sz, none⟩) dl dc), some (.slice A2 n2 c2))) : o.wp P a w K Q := z_cpO (i := i) (ht := ht) (hi := hi) (hA := hA) (hS := hS) (hr := hr) (hz := hz) (hk := hk) (hL := hL) (kk := kk) (congrArg (·.1) h_) (congrArg (·.2.1) h_) (congrArg (·.2.2) h_)
theorem x_cpO (i : Nat) {lo dl dc : Nat} {zs : List α} (ht : P.underlying t' = some (.slice e)) (hi : (P.info? e).map (·.size) = some d.sz) (hA : FR n D a F) (hS : SH r L w) (hr : Rd d w A2 zs) (hz : zs.length = min n2 dl) (hk : 0 < zs.length ∧ lo + zs.length ≤ xs.length) (hL : pk i L = own d e (some ⟨g, 0, none⟩) n1 c xs :: L')
  (kk : ∀ v a' w', SH r (own d e (some ⟨g, 0, none⟩) n1 c (xs.take lo ++ zs ++ xs.drop (lo + zs.length)) :: L') w' → FR n D a' ((t, v) :: F) → wpList P ops Q rest a' w')
  (ho : o.op = .call { callee := .builtin .copy, args := #[x, y], argTypes := #[t', t2] } := by rfl) (hx : ev F x = some (.slice (some ⟨g, lo * d.sz, none⟩) dl dc) := by rfl) (hy : ev F y = some (.slice A2 n2 c2) := by rfl) (hd : o.dst = some t := by rfl) (hg : o.guard = none := by rfl) (hb : Nat.blt t n = true := by rfl) : wpList P ops Q (o :: rest) a w :=
 wl_eff hg fun K hK => e_cpO i hS hL ht hi ho (hA.ev hx) (hA.ev hy) hr hz hk fun v w' hS' => hK _ _ (kk v _ w' hS' (put_ hA hd hb v))
theorem x_cpO' (i : Nat) {lo dl dc : Nat} {zs : List α} (ht : P.underlying t' = some (.slice e)) (hi : (P.info? e).map (·.size) = some d.sz) (hA : FR n D a F) (hS : SH r L w) (hr : Rd d w A2 zs) (hz : zs.length = min n2 dl) (hk : 0 < zs.length ∧ lo + zs.length ≤ xs.length) (hL : pk i L = own d e (some ⟨g, 0, none⟩) n1 c xs :: L')
  (kk : ∀ v a' w', SH r (own d e (some ⟨g, 0, none⟩) n1 c (xs.take lo ++ zs ++ xs.drop (lo + zs.length)) :: L') w' → FR n D a' ((t, v) :: F) → wpList P ops Q rest a' w') (h_ : (o.op, ev F x, ev F y, o.dst, o.guard, Nat.blt t n) = (.call { callee := .builtin .copy, args := #[x, y], argTypes := #[t', t2] }, some (.slice (some ⟨g, lo * d.sz, none⟩) dl dc), some (.slice A2 n2 c2), some t, none, true)) : wpList P ops Q (o :: rest) a w := x_cpO (i := i) (ht := ht) (hi := hi) (hA := hA) (hS := hS) (hr := hr) (hz := hz) (hk := hk) (hL := hL) (kk := kk) (congrArg (·.1) h_) (congrArg (·.2.1) h_) (congrArg (·.2.2.1) h_) (congrArg (·.2.2.2.1) h_) (congrArg (·.2.2.2.2.1) h_) (congrArg (·.2.2.2.2.2) h_)
theorem x_clR0 (i : Nat) {lo m mc : Nat} {z : Value} {z0 : α} (ht : P.underlying t' = some (.slice e)) (hi : (P.info? e).bind (·.zero) = some z) (hz : d.V z0 z.cells.toList) (hA : FR n D a F) (hS : SH r L w) (hm : 0 < m ∧ lo + m ≤ c) (hL : pk i L = row d e g c os :: L')
  (kk : ∀ a' w', SH r (row d e g c (os.take lo ++ (List.replicate m z0).map some ++ os.drop (lo + m)) :: L') w' → FR n D a' F → wpList P ops Q rest a' w')
  (ho : o.op = .call { callee := .builtin .clear, args := #[x], argTypes := #[t'] } := by rfl) (hx : ev F x = some (.slice (some ⟨g, lo * d.sz, none⟩) m mc) := by rfl) (hd : o.dst = none := by rfl) (hg : o.guard = none := by rfl) : wpList P ops Q (o :: rest) a w :=
 wl_eff hg fun K hK => e_clear i hS hL ht hi hz ho (hA.ev hx) hm.1 hm.2 fun v w' hS' => hK _ _ (kk _ w' hS' (by rw [hd]; exact hA))
theorem x_clR0' (i : Nat) {lo m mc : Nat} {z : Value} {z0 : α} (ht : P.underlying t' = some (.slice e)) (hi : (P.info? e).bind (·.zero) = some z) (hz : d.V z0 z.cells.toList) (hA : FR n D a F) (hS : SH r L w) (hm : 0 < m ∧ lo + m ≤ c) (hL : pk i L = row d e g c os :: L')
  (kk : ∀ a' w', SH r (row d e g c (os.take lo ++ (List.replicate m z0).map some ++ os.drop (lo + m)) :: L') w' → FR n D a' F → wpList P ops Q rest a' w') (h_ : (o.op, ev F x, o.dst, o.guard) = (.call { callee := .builtin .clear, args := #[x], argTypes := #[t'] }, some (.slice (some ⟨g, lo * d.sz, none⟩) m mc), none, none)) : wpList P ops Q (o :: rest) a w := x_clR0 (i := i) (ht := ht) (hi := hi) (hz := hz) (hA := hA) (hS := hS) (hm := hm) (hL := hL) (kk := kk) (congrArg (·.1) h_) (congrArg (·.2.1) h_) (congrArg (·.2.2.1) h_) (congrArg (·.2.2.2) h_)
theorem z_apR (i : Nat) (ht : P.underlying t' = some (.slice e)) (hi : (P.info? e).map (·.size) = some d.sz) (hA : FR n D a F) (hS : SH r L w) (hr : Rd d w A2 ys) (hn2 : ys.length = n2) (hk : k + n2 ≤ c) (hL : pk i L = row d e g c os :: L')
  (kk : ∀ w', SH r (row d e g c (os.take k ++ ys.map some ++ os.drop (k + n2)) :: L') w' → K (a.put o.dst (.slice (some ⟨g, 0, none⟩) (k + n2) c)) w')
  (ho : o.op = .call { callee := .builtin .append, args := #[x, y], argTypes := #[t', t'] } := by rfl) (hx : ev F x = some (.slice (some ⟨g, 0, none⟩) k c) := by rfl) (hy : ev F y = some (.slice A2 n2 c2) := by rfl) : o.wp P a w K Q :=
 e_append_row i hS hL ht hi ho (hA.ev hx) (hA.ev hy) hr hn2 hk kk
theorem z_apR' (i : Nat) (ht : P.underlying t' = some (.slice e)) (hi : (P.info? e).map (·.size) = some d.sz) (hA : FR n D a F) (hS : SH r L w) (hr : Rd d w A2 ys) (hn2 : ys.length = n2) (hk : k + n2 ≤ c) (hL : pk i L = row d e g c os :: L')
  (kk : ∀ w', SH r (row d e g c (os.take k ++ ys.map some ++ os.drop (k + n2)) :: L') w' → K (a.put o.dst (.slice (some ⟨g, 0, none⟩) (k + n2) c)) w') (h_ : (o.op, ev F x, ev F y) = (.call { callee := .builtin .append, args := #[x, y], argTypes := #[t', t'] }, some (.slice (some ⟨g, 0, none⟩) k c), some (.slice A2 n2 c2))) : o.wp P a w K Q := z_apR (i := i) (ht := ht) (hi := hi) (hA := hA) (hS := hS) (hr := hr) (hn2 := hn2) (hk := hk) (hL := hL) (kk := kk) (congrArg (·.1) h_) (congrArg (·.2.1) h_) (congrArg (·.2.2) h_)
theorem x_apZ {m : Int} {kq kn : IntKind} {bytes : Nat} {z : Value} (z0 : α) (ht : P.underlying t' = some (.slice e)) (htn : P.underlying t2 = some (.int kn)) (hi : (P.info? e).map (fun i => (i.zero, i.size, i.bytes)) = some (some z, d.sz, bytes)) (hz : d.V z0 z.cells.toList) (hA : FR n D a F) (hS : SH r L w)
  (hr : Rd d w A ys) (hk : ys.length = k) (h0 : 0 < m ∧ c < k + m.toNat ∧ (k + m.toNat) * bytes ≤ 140737488355328)
  (kk : ∀ g' c' a' w', SH r (own d e (some ⟨g', 0, none⟩) (k + m.toNat) c' (ys ++ List.replicate m.toNat z0) :: L) w' → FR n D a' ((t, .slice (some ⟨g', 0, none⟩) (k + m.toNat) c') :: F) → wpList P ops Q rest a' w')
  (hs : Nat.blt 0 d.sz = true := by rfl) (hbp : Nat.blt 0 bytes = true := by rfl) (ho : o.op = .call { callee := .builtin .append, args := #[x, y], argTypes := #[t', t2] } := by rfl) (hx : ev F x = some (.slice A k c) := by rfl) (hy : ev F y = some (.int kq m) := by rfl) (hd : o.dst = some t := by rfl) (hg : o.guard = none := by rfl) (hb : Nat.blt t n = true := by rfl) : wpList P ops Q (o :: rest) a w :=
 wl_eff hg fun K hK => e_append_zeros (kq := kq) hS ht htn hi hz ho (hA.ev hx) (by rw [hA.ev hy, Int.toNat_of_nonneg (by omega)]) hr hk (by omega) (by have := Nat.le_of_ble_eq_true hs; omega) h0.2.1 h0.2.2 (by have := Nat.le_of_ble_eq_true hbp; omega) fun g' c' w' hS' => hK _ _ (kk g' c' _ w' hS' (put_ hA hd hb _))
theorem x_apZ' {m : Int} {kq kn : IntKind} {bytes : Nat} {z : Value} (z0 : α) (ht : P.underlying t' = some (.slice e)) (htn : P.underlying t2 = some (.int kn)) (hi : (P.info? e).map (fun i => (i.zero, i.size, i.bytes)) = some (some z, d.sz, bytes)) (hz : d.V z0 z.cells.toList) (hA : FR n D a F) (hS : SH r L w)
  (hr : Rd d w A ys) (hk : ys.length = k) (h0 : 0 < m ∧ c < k + m.toNat ∧ (k + m.toNat) * bytes ≤ 140737488355328)
  (kk : ∀ g' c' a' w', SH r (own d e (some ⟨g', 0, none⟩) (k + m.toNat) c' (ys ++ List.replicate m.toNat z0) :: L) w' → FR n D a' ((t, .slice (some ⟨g', 0, none⟩) (k + m.toNat) c') :: F) → wpList P ops Q rest a' w') (h_ : (Nat.blt 0 d.sz, Nat.blt 0 bytes, o.op, ev F x, ev F y, o.dst, o.guard, Nat.blt t n) = (true, true, .call { callee := .builtin .append, args := #[x, y], argTypes := #[t', t2] }, some (.slice A k c), some (.int kq m), some t, none, true)) : wpList P ops Q (o :: rest) a w := x_apZ (z0 := z0) (ht := ht) (htn := htn) (hi := hi) (hz := hz) (hA := hA) (hS := hS) (hr := hr) (hk := hk) (h0 := h0) (kk := kk) (congrArg (·.1) h_) (congrArg (·.2.1) h_) (congrArg (·.2.2.1) h_) (congrArg (·.2.2.2.1) h_) (congrArg (·.2.2.2.2.1) h_) (congrArg (·.2.2.2.2.2.1) h_) (congrArg (·.2.2.2.2.2.2.1) h_) (congrArg (·.2.2.2.2.2.2.2) h_)
theorem r_extw {f : FuncId} {az : Array Operand} {ts : Array TypeId} {vals : Array Value} (hf : (callFunc f vals).run P w = .ok (.value v) w) (ho : o.op = .call { callee := .value (.func f), args := az, argTypes := ts }) (hargs : az.map a.eval = vals) : RunV P o a w v := by
 unfold RunV execOp; rw [ho]
 simp only [resolve, Act.eval, Deferred.ofValue, Sem.run_bind, Sem.run_pure, Result.andThen_ok, invoke, hargs]
 simpa using hf
theorem sep_ne {B C : HP} : ∀ {i j : Nat} {L : List HP} {S : Nat → Prop}, i ≠ j → L[i]? = some B → L[j]? = some C → Sep L w S → ∃ S1 S2 : Nat → Prop, B.P w S1 ∧ C.P w S2 ∧ ∀ k, S1 k → ¬ S2 k
 | _, _, [], S, _, hi, _, _ => by simp at hi
 | 0, 0, _ :: _, _, h, _, _, _ => absurd rfl h
 | 0, j + 1, A :: L, S, _, hi, hj, ⟨S1, S2, h1, h2, hd, hA, hL⟩ => by
  cases hi
  obtain ⟨S3, hC⟩ := SH.getL j (by simpa using hj) hL
  have : ∃ S4, (∀ k, S4 k → S2 k) ∧ C.P w S4 := by
   clear hA hC
   have key : ∀ (L : List HP) (j : Nat) (S : Nat → Prop), L[j]? = some C → Sep L w S → ∃ S4, (∀ k, S4 k → S k) ∧ C.P w S4 := by
    intro L
    induction L with
    | nil => intro j S hj; simp at hj
    | cons D L ih =>
     intro j S hj hs
     obtain ⟨T1, T2, g1, g2, gd, hD, hL⟩ := hs
     cases j with
     | zero => cases hj; exact ⟨T1, g1, hD⟩
     | succ j => obtain ⟨S4, q1, q2⟩ := ih j T2 (by simpa using hj) hL; exact ⟨S4, fun k h => g2 k (q1 k h), q2⟩
   exact key L j S2 (by simpa using hj) hL
  obtain ⟨S4, h4, hC4⟩ := this
  exact ⟨S1, S4, hA, hC4, fun k q q4 => hd k q (h4 k q4)⟩
 | i + 1, 0, A :: L, S, _, hi, hj, ⟨S1, S2, h1, h2, hd, hA, hL⟩ => by
  cases hj
  have key : ∀ (L : List HP) (j : Nat) (S : Nat → Prop), L[j]? = some B → Sep L w S → ∃ S4, (∀ k, S4 k → S k) ∧ B.P w S4 := by
   intro L
   induction L with
   | nil => intro j S hj; simp at hj
   | cons D L ih =>
    intro j S hj hs
    obtain ⟨T1, T2, g1, g2, gd, hD, hL⟩ := hs
    cases j with
    | zero => cases hj; exact ⟨T1, g1, hD⟩
    | succ j => obtain ⟨S4, q1, q2⟩ := ih j T2 (by simpa using hj) hL; exact ⟨S4, fun k h => g2 k (q1 k h), q2⟩
  obtain ⟨S4, h4, hB4⟩ := key L i S2 (by simpa using hi) hL
  exact ⟨S4, S1, hB4, hA, fun k q4 q => hd k q (h4 k q4)⟩
 | i + 1, j + 1, A :: L, S, h, hi, hj, ⟨S1, S2, h1, h2, hd, hA, hL⟩ => sep_ne (i := i) (j := j) (by omega) (by simpa using hi) (by simpa using hj) hL
theorem ov_apart {tS tR : TypeId} {lb cb off : Nat} (hu : P.underlying tS = some (.slice e)) (hi : (P.info? e).map (·.size) = some d.sz) (hS : SH r L w) (i j : Nat) (hi1 : L[i]? = some (own d e A2 n2 c2 ys)) (hj : L[j]? = some (row d e g c os)) (hne : i ≠ j) (hk : 0 < ys.length ∧ 0 < c) (hs : Nat.blt 0 d.sz = true := by rfl) :
  (Extern.SlicesOverlaps.overlaps #[tS, tS] #[tR] #[.slice A2 n2 c2, .slice (some ⟨g, off, none⟩) lb cb]).run P w = .ok (.bool false) w := by
 obtain ⟨S1, S2, hB, ⟨⟨hg, hl, hcm⟩, cur, hh, hLO⟩, hd⟩ := sep_ne hne hi1 hj hS.sep
 obtain ⟨hn, ⟨inner, hLy, ho⟩, hSo⟩ := hB
 subst hn
 obtain ⟨inf, hi2, hi3⟩ := Option.map_eq_some_iff.1 hi
 rcases ho.2 with ⟨_, h0⟩ | ⟨g2, cap, cur2, hv, _, hh2, hnc, hcm2, hs2, ht2⟩
 ·omega
 ·injection hv with hA _ hc'
  subst hA hc'
  have hgg : g2 ≠ g := fun e => hd g2 (hSo g2 rfl) (by rw [e]; exact hg)
  have hcs : cur.size = c * d.sz := by have := hLO.length; rw [hl] at this; simpa using this
  have hd0 : 0 < d.sz := by have := Nat.le_of_ble_eq_true hs; omega
  have : 0 < c * d.sz := Nat.mul_pos hk.2 hd0
  exact run_overlaps_apart w tS tR e hu inf.size (fun w => by simp [sizeOf, typeInfo, hi2]) ⟨g2, 0, none⟩ ⟨g, off, none⟩ ys.length c2 lb cb hgg e e cur2.size cur.size (by simp [World.shape?, hh2]) (by simp [World.shape?, hh]) (by omega) (by simp [World.frozen?, hh2]) (by simp [World.frozen?, hh2])
section
variable {lo sz : Nat} {l u mx : Int} {kl kh km : IntKind} {m : Nat} (hu : P.underlying t' = some (.slice e)) (hi' : (P.info? e).map (·.size) = some sz)
include hu hi'
theorem r_row_lh (ho : o.op = .slice t' x (some lo_) (some hi_) none) (hx : a.eval x = .slice (some ⟨g, lo * sz, none⟩) m c) (hl : a.eval lo_ = .int kl l) (hh : a.eval hi_ = .int kh u) (h : 0 ≤ l ∧ l < u ∧ u ≤ (c : Int)) :
  RunV P o a w (.slice (some ⟨g, (lo + l.toNat) * sz, none⟩) (u.toNat - l.toNat) (c - l.toNat)) := by
 have := r_slice_lh (w := w) hu hi' ho hx hl hh h.1 (by omega) h.2.2
 rwa [slv (by omega)] at this
theorem r_row_l (ho : o.op = .slice t' x (some lo_) none none) (hx : a.eval x = .slice (some ⟨g, lo * sz, none⟩) m c) (hl : a.eval lo_ = .int kl l) (h : 0 ≤ l ∧ l < (m : Int) ∧ m ≤ c) :
  RunV P o a w (.slice (some ⟨g, (lo + l.toNat) * sz, none⟩) (m - l.toNat) (c - l.toNat)) := by
 have := r_slice_l (w := w) hu hi' ho hx hl h.1 (by omega)
 rwa [slv (by omega)] at this
omit hu hi' in
theorem row_rde {lo k L0 : Nat} {d : Kd α} {ys : List α} (hS : SH r L w) (q : Nat) (hq : L[q]? = some (row d e g c os)) (h : rdo os (lo + L0) k = some ys) (hk : k = m - L0 ∧ m ≤ c) : Rd d w (if c = L0 then some ⟨g, lo * d.sz, none⟩ else (some (⟨g, lo * d.sz, none⟩ : Addr)).map (·.add (L0 * d.sz))) ys := by
 obtain ⟨h1, h2, _⟩ := rdo_some h
 intro hpos
 rw [slv (by omega)]
 exact row_rd hS q hq h2 hpos
theorem r_slice_lhm (ho : o.op = .slice t' x (some lo_) (some hi_) (some mx_)) (hx : a.eval x = .slice A m c) (hl : a.eval lo_ = .int kl l) (hh : a.eval hi_ = .int kh u) (hm : a.eval mx_ = .int km mx) (h : 0 ≤ l ∧ l ≤ u ∧ u ≤ mx ∧ mx ≤ (c : Int)) :
  RunV P o a w (.slice (if mx.toNat = l.toNat then A else A.map (·.add (l.toNat * sz))) (u.toNat - l.toNat) (mx.toNat - l.toNat)) := by
 obtain ⟨q, hq1, hq2⟩ := Option.map_eq_some_iff.1 hi'
 have ht : P.underlying t' = some (.slice (P.elem t')) := by rw [elem_of hu]; exact hu
 have h2 := run_slice_lhm (P := P) w t' A m c ht kl kh km l u mx h.1 h.2.1 h.2.2.1 h.2.2.2
 rw [elem_of hu] at h2
 have hs : (sizeOf e).run P w = .ok sz w := by simp [sizeOf, typeInfo, hq1, hq2]
 rw [hs] at h2
 unfold RunV execOp; rw [ho]
 simp only [hx, hl, hh, hm, Option.map_some, Sem.run_bind, run_sliceAt_slice w t' _ _ _ _ ht, h2]; rfl
end
end
end Go.Proofs.YtffdckhgkhhbjaaGreatDoor.E
namespace Go.Proofs.YtffdckhgkhhbjaaGreatDoor.E
open Go Go.RowKit
set_option linter.unusedVariables false
set_option linter.unusedSimpArgs false
def kL {α β : Type} (dp : Kd (α × Hd)) (g : α → List β) : Kd α where
 sz := dp.sz
 V x cs := ∃ h : Hd, dp.V (x, h) cs ∧ (g x).length = h.2.1
 len h := by obtain ⟨q, h, _⟩ := h; exact dp.len h
 one h := by obtain ⟨q, h, _⟩ := h; exact dp.one h
section
variable {r w : World} {L : List HP} {α β : Type} {dp : Kd (α × Hd)} {d : Kd β} {e e' : TypeId} {g : α → List β} {A : Option Addr} {n c : Nat} {xs : List α} {ps : List (α × Hd)}
theorem rows_len : ∀ {ps : List (α × Hd)} {L : List HP} {S : Nat → Prop}, Sep (rows d e' g ps :: L) w S → ∀ p ∈ ps, (g p.1).length = p.2.2.1
 | [], L, S, h, p, hp => by cases hp
 | q :: ps, L, S, h, p, hp => by
  obtain ⟨S1, S2, h1, h2, hd, hA, hL⟩ := rows_cons.1 h
  rcases List.mem_cons.1 hp with rfl | hp
  ·exact hA.1
  ·exact rows_len hL p hp
theorem own2_rdL {S : Nat → Prop} (h : (own2 dp d e' g e A n c xs).P w S) : Rd (kL dp g) w A xs ∧ xs.length = n ∧ n ≤ c ∧ c ≤ maxLen := by
 obtain ⟨ps, S1, S2, h1, h2, hd, hA, hL⟩ := h
 have hln := rows_len hL
 obtain ⟨S3, S4, h3, h4, hd', hB, S5, S6, h5, h6, hd2, hp, _⟩ := hL
 have e1 : ps.map Prod.fst = xs := hp
 have hle := own_le hA
 have hn := hA.1
 refine ⟨?_, by rw [← e1, List.length_map]; exact hn, by rw [← hn]; exact hle.1, hle.2⟩
 have hr := own_rd hA
 subst e1
 intro hpos
 obtain ⟨ad, rfl, hra⟩ := hr (by simpa using hpos)
 refine ⟨ad, rfl, fun j x hx => ?_⟩
 rw [List.getElem?_map] at hx
 cases hq : ps[j]? with
 | none => rw [hq] at hx; cases hx
 | some q =>
  rw [hq] at hx
  cases hx
  obtain ⟨cs, hV, hc⟩ := hra j q hq
  exact ⟨cs, ⟨q.2, hV, hln q (List.mem_of_getElem? hq)⟩, hc⟩
theorem SH.rd2L (hS : SH r L w) (q : Nat) (h : L[q]? = some (own2 dp d e' g e A n c xs)) : Rd (kL dp g) w A xs ∧ xs.length = n ∧ n ≤ c ∧ c ≤ maxLen := by
 obtain ⟨S, hb⟩ := hS.get q h
 exact own2_rdL hb
theorem RdL.own2 (i : Nat) (hi : L[i]? = some (own2 dp d e' g e A n c xs)) (h : SH r L w) : RdL L (kL dp g) A n c xs := by
 obtain ⟨h1, h2, h3, h4⟩ := h.rd2L i hi
 refine ⟨h2, by omega, h4, fun w' S' h' => ?_⟩
 obtain ⟨S2, h2⟩ := SH.getL i hi h'
 exact (own2_rdL h2).1
theorem Lay.put {p p' : α × Hd} (hV : ∀ cs, dp.V p cs → dp.V p' cs) : ∀ {ps : List (α × Hd)} {i : Nat} {cs : List Value}, Lay dp ps cs → ps[i]? = some p → Lay dp (ps.set i p') cs
 | [], i, cs, h, hp => by simp at hp
 | q :: ps, 0, cs, ⟨c1, c2, e, hV1, hL⟩, hp => by cases hp; exact ⟨c1, c2, e, hV _ hV1, hL⟩
 | q :: ps, i + 1, cs, ⟨c1, c2, e, hV1, hL⟩, hp => ⟨c1, c2, e, hV1, Lay.put hV hL (by simpa using hp)⟩
theorem own2_one {x : α} {A' : Option Addr} {n' c' : Nat} (h : SH r (own dp e A n c [(x, A', n', c')] :: own d e' A' n' c' (g x) :: L) w) : SH r (own2 dp d e' g e A n c [x] :: L) w :=
 own2_mk (ps := [(x, A', n', c')]) rfl (h.tl fun S hS => rows_cons.2 (hS.tl fun S hS => Sep.star (Ls := []) hS))
theorem SH.unoptP {f : Nat → α → HP} {k : Nat} {x : α} (h : SH r (optP f (some ⟨k, 0, none⟩) (some x) :: L) w) : SH r (f k x :: L) w := by
 obtain ⟨k', hk, h'⟩ := SH.unoptS h
 injection hk with hk
 injection hk with hk
 subst hk
 exact h'
end
section
variable {P : Program} {ops : Array Oper} {Q : Exit → Act → World → Prop} {rest : List Oper} {o : Oper} {a : Act} {w : World} {n : Nat} {D : List Deferred} {t : Nat} {F : List (Nat × Value)} {t' : TypeId} {x lo_ hi_ : Operand} {s ys : List UInt8} {l u : Int} {kl kh : IntKind}
theorem str_cut (s : List UInt8) (l u : Nat) : Value.string ((⟨s.toArray⟩ : ByteArray).extract l u) = str ((s.take u).drop l) := by
 unfold str
 congr 1
 apply ByteArray.ext
 rw [ByteArray.data_extract, List.extract_toArray, List.extract_eq_take_drop, List.drop_take]
theorem sz_str (s : List UInt8) : (⟨s.toArray⟩ : ByteArray).size = s.length := by simp [ByteArray.size]
theorem r_cutSlh (hu : P.underlying t' = some .string) (h : cut_ s l u = some ys) (ho : o.op = .slice t' x (some lo_) (some hi_) none) (hx : a.eval x = str s) (hl : a.eval lo_ = .int kl l) (hh : a.eval hi_ = .int kh u) : RunV P o a w (str ys) := by
 obtain ⟨h0, h1, h2, rfl⟩ := cut_some h
 have hr := run_slice_string (P := P) (w := w) t' (⟨s.toArray⟩ : ByteArray) kl kh l u hu h0 h1 (by rw [sz_str]; exact h2)
 unfold RunV execOp; rw [ho]
 simp only [hx, hl, hh, str, Option.map_some, Option.map_none, Sem.run_bind, run_sliceAt_string w t' _ _ _ _ hu, hr, str_cut]
 rfl
theorem y_cutSlh (hu : P.underlying t' = some .string) (h : cut_ s l u = some ys) (hA : FR n D a F) (ho : o.op = .slice t' x (some lo_) (some hi_) none := by rfl) (hx : ev F x = some (str s) := by rfl) (hl : ev F lo_ = some (.int kl l) := by rfl) (hh : ev F hi_ = some (.int kh u) := by rfl) : RunV P o a w (str ys) := r_cutSlh hu h ho (hA.ev hx) (hA.ev hl) (hA.ev hh)
theorem x_cutSlh (hu : P.underlying t' = some .string) (h : cut_ s l u = some ys) (hA : FR n D a F) (kk : ∀ a', FR n D a' ((t, str ys) :: F) → wpList P ops Q rest a' w) (ho : o.op = .slice t' x (some lo_) (some hi_) none := by rfl) (hx : ev F x = some (str s) := by rfl) (hl : ev F lo_ = some (.int kl l) := by rfl) (hh : ev F hi_ = some (.int kh u) := by rfl)
  (hd : o.dst = some t := by rfl) (hg : o.guard = none := by rfl) (ht : Nat.blt t n = true := by rfl) : wpList P ops Q (o :: rest) a w := x_val hA (y_cutSlh hu h hA ho hx hl hh) kk hd hg ht
theorem x_cutSlh' (hu : P.underlying t' = some .string) (h : cut_ s l u = some ys) (hA : FR n D a F) (kk : ∀ a', FR n D a' ((t, str ys) :: F) → wpList P ops Q rest a' w) (h_ : (o.op, ev F x, ev F lo_, ev F hi_, o.dst, o.guard, Nat.blt t n) = (.slice t' x (some lo_) (some hi_) none, some (str s), some (.int kl l), some (.int kh u), some t, none, true)) : wpList P ops Q (o :: rest) a w := x_cutSlh (hu := hu) (h := h) (hA := hA) (kk := kk) (congrArg (·.1) h_) (congrArg (·.2.1) h_) (congrArg (·.2.2.1) h_) (congrArg (·.2.2.2.1) h_) (congrArg (·.2.2.2.2.1) h_) (congrArg (·.2.2.2.2.2.1) h_) (congrArg (·.2.2.2.2.2.2) h_)
end
theorem freeze_cell (w : World) (a : Addr) (k : Nat) (b : Addr) : (w.freeze a k).cell? b = w.cell? b := by
 unfold World.freeze
 split
 ·rfl
 ·by_cases h : b.block = a.block
  ·simp only [World.cell?, Array.getElem?_modify, h, if_true]
   cases hh : w.heap[a.block]? with
   | none => rfl
   | some ob => cases ob <;> rfl
  ·simp only [World.cell?, Array.getElem?_modify]
   rw [if_neg (fun q => h q.symm)]
theorem freeze_other (w : World) (a : Addr) (k j : Nat) (h : j ≠ a.block) : (w.freeze a k).heap[j]? = w.heap[j]? := by
 unfold World.freeze
 split
 ·rfl
 ·simp only [Array.getElem?_modify]
  rw [if_neg (fun q => h q.symm)]
section
variable {P : Program} {ops : Array Oper} {Q : Exit → Act → World → Prop} {rest : List Oper} {o : Oper} {a : Act} {w : World} {K : Act → World → Prop} {r : World} {L L' : List HP} {t e : TypeId} {x : Operand} {A : Option Addr} {n c : Nat} {xs : List Int}
theorem run_cvM (ht : P.underlying t = some (.slice e)) (he : P.underlying e = some (.int .u8)) (g n c : Nat) : ∃ w', (convert t t (.slice (some ⟨g, 0, none⟩) n c)).run P w = .ok (.slice (some ⟨g, 0, none⟩) n c) w' ∧ (w' = w ∨ ∃ k, w' = w.freeze ⟨g, k, none⟩ 1) := by
 cases hs : w.shape? g with
 | none => exact ⟨w, by simp [convert, run_underlying ht, run_underlying he, markStringish, hs], .inl rfl⟩
 | some q => exact ⟨_, by simp [convert, run_underlying ht, run_underlying he, markStringish, hs], .inr ⟨q.2, rfl⟩⟩
theorem e_cvM (i : Nat) (hS : SH r L w) (hL : pk i L = ownm e A n c xs :: L') (ht : P.underlying t = some (.slice e)) (he : P.underlying e = some (.int .u8)) (ho : o.op = .convert t t x) (hx : a.eval x = .slice A n c)
  (hK : ∀ w', SH r (ownm e A n c xs :: L') w' → K (a.put o.dst (.slice A n c)) w') : o.wp P a w K Q := by
 have hS' := hS.pk i
 rw [hL] at hS'
 obtain ⟨S1, S2, h1, h2, hd, ⟨hn, hnc, hcm, g, rfl, hSg, hR⟩, hsep⟩ := hS'.sep
 obtain ⟨w', hrun, hw⟩ := run_cvM (w := w) ht he g n c
 have h : (execOp a.eval o).run P w = .ok (.value (.slice (some ⟨g, 0, none⟩) n c)) w' := by
  unfold execOp; rw [ho]
  simp only [hx, Sem.run_bind, hrun]
  rfl
 unfold Oper.wp
 rw [h]
 rcases hw with rfl | ⟨k, rfl⟩
 ·exact hK _ hS'
 ·refine hK _ (hS'.upd (w' := w.freeze ⟨g, k, none⟩ 1) h1 h2 hd hsep rfl rfl rfl (by simp [World.freeze]) (fun j hj hj1 => freeze_other w _ 1 j fun e => hj1 (by rw [e]; exact hSg)) (Ls := [ownm e (some ⟨g, 0, none⟩) n c xs]) fun S hS1 _ _ =>
   ⟨S, fun _ => False, fun _ h => h, fun _ h => h.elim, fun _ _ h => h, ⟨hn, hnc, hcm, g, rfl, hS1 _ hSg, fun j x hx => ?_⟩, trivial⟩)
  obtain ⟨cs, hV, hc⟩ := hR j x hx
  exact ⟨cs, hV, fun q u hu => by rw [freeze_cell]; exact hc q u hu⟩
theorem x_cvM {D : List Deferred} {m q : Nat} {F : List (Nat × Value)} (i : Nat) (ht : P.underlying t = some (.slice e)) (he : P.underlying e = some (.int .u8)) (hA : FR m D a F) (hS : SH r L w) (hL : pk i L = ownm e A n c xs :: L')
  (kk : ∀ a' w', SH r (ownm e A n c xs :: L') w' → FR m D a' ((q, .slice A n c) :: F) → wpList P ops Q rest a' w')
  (ho : o.op = .convert t t x := by rfl) (hx : ev F x = some (.slice A n c) := by rfl) (hd : o.dst = some q := by rfl) (hg : o.guard = none := by rfl) (hb : Nat.blt q m = true := by rfl) : wpList P ops Q (o :: rest) a w :=
 wl_eff hg fun K hK => e_cvM i hS hL ht he ho (hA.ev hx) fun w' hS' => hK _ _ (kk _ w' hS' (put_ hA hd hb _))
theorem x_cvM' {D : List Deferred} {m q : Nat} {F : List (Nat × Value)} (i : Nat) (ht : P.underlying t = some (.slice e)) (he : P.underlying e = some (.int .u8)) (hA : FR m D a F) (hS : SH r L w) (hL : pk i L = ownm e A n c xs :: L')
  (kk : ∀ a' w', SH r (ownm e A n c xs :: L') w' → FR m D a' ((q, .slice A n c) :: F) → wpList P ops Q rest a' w') (h_ : (o.op, ev F x, o.dst, o.guard, Nat.blt q m) = (.convert t t x, some (.slice A n c), some q, none, true)) : wpList P ops Q (o :: rest) a w := x_cvM (i := i) (ht := ht) (he := he) (hA := hA) (hS := hS) (hL := hL) (kk := kk) (congrArg (·.1) h_) (congrArg (·.2.1) h_) (congrArg (·.2.2.1) h_) (congrArg (·.2.2.2.1) h_) (congrArg (·.2.2.2.2) h_)
theorem own_ownm (hn : 0 < n) (h : SH r (own (kI .u8) e A n c xs :: L) w) : SH r (ownm e A n c xs :: L) w := by
 refine h.imp fun S hS => ?_
 have hle := own_le hS
 have hrd := own_rd hS (by rw [hS.1]; exact hn)
 obtain ⟨hl, ⟨inner, hL, ho⟩, hSo⟩ := hS
 obtain ⟨g, hA, _, _⟩ := ownsRow_reads ho (by omega)
 subst hA
 obtain ⟨ad, hA, hra⟩ := hrd
 cases hA
 exact ⟨hl, by omega, hle.2, g, rfl, hSo g rfl, hra⟩
end
section
variable {P : Program} {ops : Array Oper} {Q : Exit → Act → World → Prop} {rest : List Oper} {o : Oper} {a : Act} {w : World} {K : Act → World → Prop} {r : World} {L L' : List HP} {t e T xt yt t' : TypeId} {x y : Operand} {A : Option Addr} {n c m : Nat} {xs : List Int} {s : List UInt8} {v : Value}
end
section
variable {Z : Nat → Prop} {wz : World} {L : List HP} {α : Type} {d : Kd α} {A : Option Addr} {n c : Nat} {xs ys : List α} {l u : Int}
theorem rv_e {P : Program} {o : Oper} {a : Act} {w : World} {v v' : Value} (h : v = v') (hr : RunV P o a w v') : RunV P o a w v := h ▸ hr
theorem imm_hc (h : Imm Z wz d A n c xs) (hx : cut_ xs 0 u = some ys) : ∃ A' n' c', Value.slice A' n' c' = .slice A u.toNat c ∧ Imm Z wz d A' n' c' ys := ⟨_, _, _, rfl, imm_h h hx⟩
theorem imm_lc (h : Imm Z wz d A n c xs) (hx : cut_ xs l (xs.length : Int) = some ys) : ∃ A' n' c', Value.slice A' n' c' = .slice (if c = l.toNat then A else A.map (·.add (l.toNat * d.sz))) (n - l.toNat) (c - l.toNat) ∧ Imm Z wz d A' n' c' ys := ⟨_, _, _, rfl, imm_l h hx⟩
theorem imm_lhc (h : Imm Z wz d A n c xs) (hx : cut_ xs l u = some ys) : ∃ A' n' c', Value.slice A' n' c' = .slice (if c = l.toNat then A else A.map (·.add (l.toNat * d.sz))) (u.toNat - l.toNat) (c - l.toNat) ∧ Imm Z wz d A' n' c' ys := ⟨_, _, _, rfl, imm_lh h hx⟩
theorem lv4 {P : Program} {a : Act} {w : World} {n : Nat} {F : List (Nat × Value)} {fn : Func} {R : Value → World → Prop} {t u q s : Nat} {v1 v2 v3 v4 : Value} (hr : fn.results = #[.tmp t, .tmp u, .tmp q, .tmp s]) (hA : FR n [] a F) (h1 : lk F t = some v1) (h2 : lk F u = some v2) (h3 : lk F q = some v3) (h4 : lk F s = some v4) (h : R (.tuple #[v1, v2, v3, v4]) w) : bodyPost P fn (fun e w' => ∃ v, e = .returned v ∧ R v w') .ret a w :=
 bodyPost_ret (v := .tuple #[v1, v2, v3, v4]) (by
  have e1 : a.tmps.getD t undef = v1 := hA.ev (x := .tmp t) h1
  have e2 : a.tmps.getD u undef = v2 := hA.ev (x := .tmp u) h2
  have e3 : a.tmps.getD q undef = v3 := hA.ev (x := .tmp q) h3
  have e4 : a.tmps.getD s undef = v4 := hA.ev (x := .tmp s) h4
  rw [← e1, ← e2, ← e3, ← e4]
  simp [results, hr]) hA.defers ⟨_, rfl, h⟩
end
section
variable {P : Program} {ops : Array Oper} {Q : Exit → Act → World → Prop} {rest : List Oper} {o : Oper} {a : Act} {w : World} {r : World} {L : List HP} {t e T t' : TypeId} {x y : Operand} {α : Type} {d : Kd α} {xs : List α} {k : IntKind} {i : Int}
theorem r_iaA {g m sz : Nat} (hu : P.underlying t = some (.array m e)) (hi : (P.info? e).map (·.size) = some sz) (ho : o.op = .indexAddr t x y) (hx : a.eval x = .pointer (some ⟨g, 0, none⟩)) (hy : a.eval y = .int k i)
  (h0 : 0 ≤ i) (h1 : i < (m : Int)) : RunV P o a w (.pointer (some (ea (some ⟨g, 0, none⟩) (i.toNat * sz)))) := by
 unfold RunV execOp; rw [ho]
 obtain ⟨q, hq1, hq2⟩ := Option.map_eq_some_iff.1 hi
 simp [hx, hy, Instr.indexAt, asIntOf, run_underlying hu, h0, h1, sizeOf, typeInfo, hq1, hq2, ea, Instr.sureAddr]
theorem y_iaA {D : List Deferred} {n : Nat} {F : List (Nat × Value)} {g m c sz : Nat} {z : α} (hu : P.underlying t = some (.array m e)) (hi : (P.info? e).map (·.size) = some sz) (hr : Rd d w (some ⟨g, 0, none⟩) xs ∧ xs.length = m ∧ m ≤ c ∧ c ≤ maxLen) (hz : at_ xs i = some z) (hA : FR n D a F)
  (ho : o.op = .indexAddr t x y := by rfl) (hx : ev F x = some (.pointer (some ⟨g, 0, none⟩)) := by rfl) (hy : ev F y = some (.int k i) := by rfl) : RunV P o a w (.pointer (some (ea (some ⟨g, 0, none⟩) (i.toNat * sz)))) :=
 have h := at_some hz
 r_iaA hu hi ho (hA.ev hx) (hA.ev hy) h.1 (by have := hr.2.1; omega)
theorem x_iaA {D : List Deferred} {n q : Nat} {F : List (Nat × Value)} {g m c sz : Nat} {z : α} (hu : P.underlying t = some (.array m e)) (hi : (P.info? e).map (·.size) = some sz) (hr : Rd d w (some ⟨g, 0, none⟩) xs ∧ xs.length = m ∧ m ≤ c ∧ c ≤ maxLen) (hz : at_ xs i = some z) (hA : FR n D a F)
  (kk : ∀ a', FR n D a' ((q, .pointer (some (ea (some ⟨g, 0, none⟩) (i.toNat * sz)))) :: F) → wpList P ops Q rest a' w)
  (ho : o.op = .indexAddr t x y := by rfl) (hx : ev F x = some (.pointer (some ⟨g, 0, none⟩)) := by rfl) (hy : ev F y = some (.int k i) := by rfl) (hd : o.dst = some q := by rfl) (hg : o.guard = none := by rfl) (ht : Nat.blt q n = true := by rfl) : wpList P ops Q (o :: rest) a w :=
 x_val hA (y_iaA hu hi hr hz hA ho hx hy) kk hd hg ht
theorem x_iaA' {D : List Deferred} {n q : Nat} {F : List (Nat × Value)} {g m c sz : Nat} {z : α} (hu : P.underlying t = some (.array m e)) (hi : (P.info? e).map (·.size) = some sz) (hr : Rd d w (some ⟨g, 0, none⟩) xs ∧ xs.length = m ∧ m ≤ c ∧ c ≤ maxLen) (hz : at_ xs i = some z) (hA : FR n D a F)
  (kk : ∀ a', FR n D a' ((q, .pointer (some (ea (some ⟨g, 0, none⟩) (i.toNat * sz)))) :: F) → wpList P ops Q rest a' w) (h_ : (o.op, ev F x, ev F y, o.dst, o.guard, Nat.blt q n) = (.indexAddr t x y, some (.pointer (some ⟨g, 0, none⟩)), some (.int k i), some q, none, true)) : wpList P ops Q (o :: rest) a w := x_iaA (hu := hu) (hi := hi) (hr := hr) (hz := hz) (hA := hA) (kk := kk) (congrArg (·.1) h_) (congrArg (·.2.1) h_) (congrArg (·.2.2.1) h_) (congrArg (·.2.2.2.1) h_) (congrArg (·.2.2.2.2.1) h_) (congrArg (·.2.2.2.2.2) h_)
end
section
variable {P : Program} {ops : Array Oper} {Q : Exit → Act → World → Prop} {o : Oper} {a : Act} {w : World} {K K' : Act → World → Prop} {lp m : Nat}
end
section
variable {P : Program} {ops : Array Oper} {Q : Exit → Act → World → Prop} {o : Oper} {rest : List Oper} {a : Act} {w : World} {lp m n t : Nat} {D : List Deferred} {F : List (Nat × Value)} {v : Value}
end
section
variable {P : Program} {o : Oper} {a : Act} {w : World} {x y : Operand} {s u : List UInt8}
end
section
variable {P : Program} {Q : Exit → Act → World → Prop} {a : Act} {w : World} {lp m : Nat}
end
section
variable {P : Program} {r w : World} {L : List HP} {g : Nat} {o : Obj}
end
section
variable {σ α : Type} {d : Kd α} {P : Program} {f : FuncId} {q : Nat} {xs : List α} {φ : σ → List α → Option σ} {s0 y : σ} {n : Nat} {Fr : List (Nat × Value)} {a : Act} {w r : World} {L : List HP}
 {g : Operand} {p pc : Nat} {body : Code} {b1 b2 : Nat} {A : Option Addr} {m c : Nat} {Q : Exit → Act → World → Prop}
end
section
variable {P : Program} {f : FuncId} {fn : Func} {cd : Code} {args : Array Value} {w : World} {R : Value → World → Prop} {n : Nat}
end
end Go.Proofs.YtffdckhgkhhbjaaGreatDoor.E
namespace Go.Proofs.YtffdckhgkhhbjaaGreatDoor.E
open Go Go.RowKit Go.ChangeShapes Go.WideShapes Go.Deep
set_option linter.unusedVariables false
set_option linter.unusedSimpArgs false
def Wt {H : Type} (P : Program) (t : TypeId) (d : DataW H) : Prop := ∀ n ∈ d.weights P t, n ≤ reachBytes
def HeapZ (W : World) : Nat → Prop := fun k => k < W.heap.size
def Opens {α : Type} (P : Program) (W : World) (t : TypeId) (d : Kd α) (g : α → Prop) : Prop :=
 ∀ (H : Type) (enc : TypeId × Value → H) (held : Bool) (fuel : Nat) (cs : List Value) (x : DataW H × List MemPlace),
  DataW.trod enc P W 0 (fun _ => true) held fuel t cs = some x → Wt P t x.1 → ∃ a, d.V a cs ∧ g a
def gI (k : IntKind) (n : Int) : Prop := (Lit.int k n).wf = true
def gB (_ : Bool) : Prop := True
def gS (s : List UInt8) : Prop := s.length ≤ reachBytes
def gF (b : Nat) : Prop := (Lit.float .f64 b).wf = true
def gL {α : Type} (by_ : Nat) (g : α → Prop) (xs : List α) : Prop := xs.length * by_ ≤ reachBytes ∧ ∀ x ∈ xs, g x
section
variable {P : Program} {W : World} {t e : TypeId}
theorem opI {k : IntKind} (hu : P.underlying t = some (.int k)) : Opens P W t (kI k) (gI k) := by
 intro H enc held fuel cs x h _
 obtain ⟨n, hc, _, hw⟩ := DataW.trod_int hu h
 exact ⟨n, hc, hw⟩
theorem opB (hu : P.underlying t = some .bool) : Opens P W t kB gB := by
 intro H enc held fuel cs x h _
 obtain ⟨b, hc, _⟩ := DataW.trod_bool hu h
 exact ⟨b, hc, trivial⟩
theorem opS (hu : P.underlying t = some .string) : Opens P W t kS gS := by
 intro H enc held fuel cs x h hw
 obtain ⟨s, hc, hx, _⟩ := DataW.trod_string hu h
 refine ⟨s.data.toList, by rw [hc]; rfl, ?_⟩
 have := hw s.data.toList.length (by rw [hx]; simp [DataW.weights])
 exact this
theorem trod_float {H : Type} {enc : TypeId × Value → H} {base : Nat} {spare : Nat → Bool} {held : Bool} {fuel : Nat} {cs : List Value} {x : DataW H × List MemPlace} {k : FloatKind}
  (ht : P.underlying t = some (.float k)) (h : DataW.trod enc P W base spare held fuel t cs = some x) : ∃ b, cs = [.float k b] ∧ (Lit.float k b).wf = true := by
 cases fuel with
 | zero => simp [DataW.trod] at h
 | succ n =>
  unfold DataW.trod at h
  rw [ht] at h
  split at h <;> simp_all
theorem opF (hu : P.underlying t = some (.float .f64)) : Opens P W t kF gF := by
 intro H enc held fuel cs x h hw
 obtain ⟨b, hc, hwf⟩ := trod_float hu h
 exact ⟨b, hc, hwf⟩
theorem pick_list {α : Type} {Q : Nat → α → Prop} : ∀ (n : Nat), (∀ i, i < n → ∃ a, Q i a) → ∃ xs : List α, xs.length = n ∧ ∀ i x, xs[i]? = some x → Q i x
 | 0, _ => ⟨[], rfl, fun i x h => by simp at h⟩
 | n + 1, h => by
  obtain ⟨xs, hl, hx⟩ := pick_list n fun i hi => h i (by omega)
  obtain ⟨a, ha⟩ := h n (by omega)
  refine ⟨xs ++ [a], by simp [hl], fun i x hi => ?_⟩
  rw [List.getElem?_append] at hi
  split at hi
  ·exact hx i x hi
  ·rename_i hge
   have : i - xs.length = 0 := by
    have := (List.getElem?_eq_some_iff.1 hi).1
    simp at this
    omega
   rw [this] at hi
   simp at hi
   subst hi
   rw [show i = n by omega]
   exact ha
theorem opSl {α : Type} {d : Kd α} {g : α → Prop} {by_ : Nat} (hu : P.underlying t = some (.slice e)) (hc : P.cellsOf e = d.sz) (hz : 0 < d.sz) (hb : P.bytesOf e = by_) (he : Opens P W e d g) :
  Opens P W t (kM (HeapZ W) W d) (gL by_ g) := by
 intro H enc held fuel cs x h hw
 rcases open_slice hu h with ⟨rfl, rfl⟩ | ⟨a, len, cap, m, n, D, Pl, rfl, _, hl, hm, hmm, rfl, hi⟩
 ·exact ⟨[], ⟨none, 0, 0, rfl, Imm.nil⟩, by simp, fun x h => by simp at h⟩
 ·simp only [if_true] at hmm
  subst hmm
  have hwt : ∀ i, i < m → Wt P e (D i) := by
   intro i him q hq
   refine hw q ?_
   simp only [DataW.weights, hu, List.mem_cons, List.mem_append]
   have key : ∀ (l : List Nat), (∃ j ∈ l, q ∈ (D j).weights P e) → q ∈ DataW.weightsAll P e (l.map D) := by
    intro l
    induction l with
    | nil => rintro ⟨j, hj, _⟩; simp at hj
    | cons a l ih =>
     rintro ⟨j, hj, hq⟩
     simp only [List.map_cons, DataW.weightsAll, List.mem_append]
     rcases List.mem_cons.1 hj with rfl | hj
     ·exact .inl hq
     ·exact .inr (ih ⟨j, hj, hq⟩)
   rcases Nat.lt_or_ge i len with hil | hil
   ·exact .inr (.inl (key _ ⟨i, List.mem_range.2 hil, hq⟩))
   ·refine .inr (.inr ?_)
    have : (List.range (m - len)).map (fun j => D (len + j)) = ((List.range (m - len)).map (len + ·)).map D := by simp [Function.comp_def]
    rw [this]
    exact key _ ⟨i, List.mem_map.2 ⟨i - len, List.mem_range.2 (by omega), by omega⟩, hq⟩
  obtain ⟨xs, hxl, hx⟩ := pick_list (Q := fun i y => g y ∧ ∃ cs', d.V y cs' ∧ a.block < W.heap.size ∧ ∀ q u, cs'[q]? = some u → W.cell? (a.add (i * d.sz + q)) = some u) len (fun i hil => by
   obtain ⟨cs', hcell, ht⟩ := hi i (by omega)
   obtain ⟨y, hV, hg⟩ := he H enc held n cs' _ ht (hwt i (by omega))
   rw [hc] at hcell
   obtain ⟨_, hcl, hat⟩ := World.cells?_some hcell
   have hq : ∀ q u, cs'[q]? = some u → W.cell? (a.add (i * d.sz + q)) = some u := by
    intro q u hu
    have hql := (List.getElem?_eq_some_iff.1 hu).1
    rw [← Go.Proofs.YtffdckhgkhhbjaaGreatDoor.E.add_add', hat q (by omega), hu]
   refine ⟨y, hg, cs', hV, ?_, hq⟩
   have h0 := hq 0 _ (List.getElem?_eq_getElem (by omega))
   have hb : ∀ k, (a.add k).block = a.block := fun k => add_block a k
   unfold World.cell? at h0
   rw [hb] at h0
   rcases hh : W.heap[a.block]? with _ | o
   ·rw [hh] at h0; cases h0
   ·exact (Array.getElem?_eq_some_iff.1 hh).1)
  refine ⟨xs, ⟨some a, len, m, rfl, hxl, by omega, hm, fun hpos => ⟨a, rfl, ?_, fun j y hy => ?_⟩⟩, ?_, fun y hy => ?_⟩
  ·obtain ⟨_, cs', _, hblk, _⟩ := hx 0 _ (List.getElem?_eq_getElem hpos)
   exact hblk
  ·obtain ⟨_, cs', hV, _, hq⟩ := hx j y hy
   exact ⟨cs', hV, hq⟩
  ·have := hw ((((List.range len).map D).length + ((List.range (m - len)).map fun j => D (len + j)).length) * P.bytesOf e) (by simp only [DataW.weights, hu]; exact List.mem_cons_self)
   rw [hb] at this
   simp only [List.length_map, List.length_range] at this
   rw [hxl]
   exact Nat.le_trans (Nat.mul_le_mul_right _ (by omega)) this
  ·obtain ⟨j, hj⟩ := List.getElem?_of_mem hy
   exact (hx j y hj).1
theorem fld {H : Type} {enc : TypeId × Value → H} {held : Bool} {fs : Array Field} {ys : List (DataW H × List MemPlace)} {n : Nat} {cs : List Value} (hu : P.underlying e = some (.struct fs))
  (hf : ∀ (i : Nat) (f : Field), fs[i]? = some f → DataW.trod enc P W 0 (fun _ => true) held n f.type ((cs.drop f.offset).take (P.cellsOf f.type)) = ys[i]?) (hyl : ys.length = fs.size)
  (hw : Wt P e (.agg (ys.map (·.1)))) (i : Nat) {f : Field} (hi : fs[i]? = some f) {o c : Nat} (ht : f.type = t) (ho : f.offset = o) (hc : P.cellsOf t = c) {α : Type} {d : Kd α} {g : α → Prop} (hO : Opens P W t d g) :
  ∃ a, d.V a ((cs.drop o).take c) ∧ g a := by
 have hlt := (Array.getElem?_eq_some_iff.1 hi).1
 have h := hf i f hi
 subst ht ho hc
 rw [List.getElem?_eq_getElem (by omega)] at h
 refine hO H enc held n _ _ h fun q hq => hw q ?_
 simp only [DataW.weights, hu]
 refine DataW.weights_mem_each (j := i) (t := f.type) (d := (ys[i]'(by omega)).1) ?_ ?_ q hq
 ·rw [List.getElem?_map, Array.getElem?_toList, hi]; rfl
 ·rw [List.getElem?_map, List.getElem?_eq_getElem (by omega)]; rfl
theorem Opens.arg {H : Type} {enc : TypeId × Value → H} {held : Bool} {v : Value} {x : DataW H} {p : List MemPlace} {α : Type} {d : Kd α} {g : α → Prop} (hO : Opens P W t d g)
  (h : DataW.Trod enc P W 0 (fun _ => true) held t v x p) (hw : Wt P t x) : ∃ a, d.V a v.cells.toList ∧ g a := by
 obtain ⟨fuel, h⟩ := h
 exact hO H enc held fuel _ _ h hw
theorem SH.start (W : World) : SH W [zone (HeapZ W) W] W :=
 ⟨rfl, rfl, rfl, fun k => k < W.heap.size, fun _ => False, fun _ h => h, fun _ h => h.elim, fun _ _ h => h, ⟨fun _ h => h, fun _ _ => rfl⟩, trivial⟩
theorem SH.below {W w' : World} {Z : Nat → Prop} {wz : World} {L : List HP} (h : SH W (zone Z wz :: L) w') (hs : Sub (HeapZ W) W Z wz) : Below W.heap.size W w' := by
 obtain ⟨S1, S2, h1, h2, hd, hA, hL⟩ := h.sep
 refine ⟨h.os, h.tape, h.output, ?_, fun k hk => (hA.2 k (hs k hk).1).trans (hs k hk).2⟩
 rcases Nat.eq_zero_or_pos W.heap.size with h0 | h0
 ·omega
 ·have := h1 _ (hA.1 _ (hs (W.heap.size - 1) (show W.heap.size - 1 < W.heap.size by omega)).1)
  omega
theorem Wt.of {H : Type} {ts : List TypeId} {ds : List (DataW H)} (h : (DataW.weightsEach P ts ds).all (· ≤ reachBytes) = true) {j : Nat} {d : DataW H} (ht : ts[j]? = some t) (hd : ds[j]? = some d) : Wt P t d := by
 intro n hn
 have := List.all_eq_true.1 h _ (DataW.weights_mem_each ht hd n hn)
 simpa using this
end
end Go.Proofs.YtffdckhgkhhbjaaGreatDoor.E
namespace Go.Proofs.YtffdckhgkhhbjaaGreatDoor.E
open Go Go.RowKit
theorem tab_imm {P : Program} {W : World} {nm : String} {g t e n : Nat} {k : IntKind} {xs : List Int} (hg : P.globalNamed nm = some g) (ht : (P.globals[g]?).map (·.type) = some t)
  (hu : P.underlying t = some (.array n e)) (he : P.underlying e = some (.int k)) (hce : P.cellsOf e = 1) (hn : xs.length = n) (hm : n ≤ maxLen)
  (h : laidMet P [(nm, .agg (xs.map fun x => .lit (.int k x)))] W) : Imm (HeapZ W) W (kI k) (some ⟨g, 0, none⟩) n n xs := by
 obtain ⟨ps, ⟨g0, t0, cs, f0, p, q, hg0, ht0, hv, hd, _, _⟩, _, _⟩ := h
 obtain rfl := Option.some.inj (hg.symm.trans hg0)
 obtain rfl := Option.some.inj (ht.symm.trans ht0)
 obtain ⟨ys, m, rfl, hx, hl, hyn, hel⟩ := DataW.trod_array hu hd
 have hb : g < W.heap.size := by
  simp only [World.var?, hg, Option.bind_some] at hv
  split at hv
  ·rename_i hq; exact (Array.getElem?_eq_some_iff.1 hq).1
  ·cases hv
 have hx1 : xs.map (fun x => (DataW.lit (.int k x) : DataW Unit)) = ys.map (·.1) := by
  simp only [Prod.mk.injEq, DataW.agg.injEq] at hx; exact hx.1
 refine ⟨hn, by omega, hm, fun _ => ⟨_, rfl, hb, fun j x hj => ⟨[.int k x], rfl, fun q u hq => ?_⟩⟩⟩
 have hjn : j < n := by have := (List.getElem?_eq_some_iff.1 hj).1; omega
 have h1 := hel j hjn
 rw [hce] at h1
 have h2 : (ys.map (·.1))[j]? = some (.lit (.int k x)) := by rw [← hx1, List.getElem?_map, hj]; rfl
 rw [List.getElem?_map] at h2
 cases hy : ys[j]? with
 | none => rw [hy] at h2; cases h2
 | some y =>
  rw [hy] at h2 h1
  obtain ⟨z, e1, e2, _⟩ := DataW.trod_int he h1
  have hz : z = x := by rw [e2] at h2; simpa using h2
  subst hz
  match q, hq with
  | 0, hq =>
   have hu0 : Value.int k z = u := by simpa using hq
   subst hu0
   have hc := World.var?_cell hg hv j
   have h3 : (cs.toList.drop (j * 1))[0]? = some (.int k z) := by
    have h4 : ((cs.toList.drop (j * 1)).take 1)[0]? = some (.int k z) := by rw [e1]; rfl
    rw [List.getElem?_take_of_lt (by omega)] at h4; exact h4
   rw [List.getElem?_drop] at h3
   have h5 : cs[j]? = some (.int k z) := by
    rw [← Array.getElem?_toList]; rw [show j * 1 + 0 = j by omega] at h3; exact h3
   have h6 : (({ block := g, off := 0 } : Addr).add (j * (kI k).sz + 0)) = ⟨g, j, none⟩ := by
    show Addr.add ⟨g, 0, none⟩ (j * 1 + 0) = ⟨g, j, none⟩
    unfold Addr.add
    split
    ·rename_i hz; rw [show j = 0 by omega]
    ·simp
   rw [h6, hc, h5]
  | q + 1, hq => simp at hq
structure Gc (Z : Nat → Prop) (wz : World) (g : Nat) (p : Value → Prop) : Prop where
 z : Z g
 c : ∃ v, wz.cell? ⟨g, 0, none⟩ = some v ∧ p v
section
variable {Z Z' : Nat → Prop} {wz wz' r w : World} {g : Nat} {p : Value → Prop} {L : List HP}
theorem Gc.sub (h : Gc Z wz g p) (hs : Sub Z wz Z' wz') : Gc Z' wz' g p := by
 obtain ⟨v, hc, hp⟩ := h.c
 exact ⟨(hs g h.z).1, v, (World.cell?_of_block (hs g h.z).2).trans hc, hp⟩
theorem Gc.at_ (h : Gc Z wz g p) (hS : SH r L w) (q : Nat) (hL : L[q]? = some (zone Z wz)) : ∃ v, w.cell? ⟨g, 0, none⟩ = some v ∧ p v := by
 obtain ⟨S2, h2⟩ := SH.getL q hL hS.sep
 obtain ⟨v, hc, hp⟩ := h.c
 exact ⟨v, (World.cell?_of_block (h2.2 g h.z)).trans hc, hp⟩
end
def isI64 (v : Value) : Prop := ∃ m, v = .int .i64 m
def isEr (v : Value) : Prop := v = .nilIface ∨ ∃ te pe, v = .iface te pe
def ErV (b : Bool) (v : Value) : Prop := match b with
 | true => ∃ te pe, v = .iface te pe
 | false => v = .nilIface
section
variable {P : Program} {o : Oper} {a : Act} {w : World} {x : Operand} {xt yt : TypeId}
theorem r_neE {ms : Array (String × TypeId)} (hu : P.underlying xt = some (.interface ms)) (ho : o.op = .binOp .neq xt x (.const .nilIface) yt) {v : Value} (hx : a.eval x = v) {b : Bool} (h : ErV b v) : RunV P o a w (.bool b) := by
 cases b with
 | true => obtain ⟨te, pe, rfl⟩ := h; exact r_neIfNil hu ho hx rfl
 | false => obtain rfl : v = .nilIface := h; exact r_neNilIf hu ho hx
end
theorem ldb {w : World} {g off : Nat} {cs vs : List Value} (hc : ∀ j u, cs[j]? = some u → w.cell? ⟨g, j, none⟩ = some u) (hv : (cs.drop off).take vs.length = vs) : ∀ j u, vs[j]? = some u → w.cell? ((⟨g, off, none⟩ : Addr).add j) = some u := by
 intro j u h
 rw [add_mk]
 refine hc _ _ ?_
 rw [← hv, List.getElem?_take] at h
 split at h
 ·rwa [List.getElem?_drop] at h
 ·cases h
theorem SH.drewN {r w : World} {L : List HP} (h : SH r L w) (n : Nat) : SH r L (w.drewN n) := h.keep rfl rfl rfl (Nat.le_refl _) fun _ _ => rfl
theorem SH.bel {r w w' : World} {L : List HP} (h : SH r L w) (hb : Below w.heap.size w w') : SH r L w' := h.keep hb.os hb.tape hb.output hb.size hb.block
theorem iface_of_trod {P : Program} {w : World} {sp : Nat → Bool} {fuel : Nat} {t : TypeId} {ms : Array (String × TypeId)} {cs : List Value} {nm : String} {d : DataW Unit} {p : List MemPlace} (ht : P.underlying t = some (.interface ms))
  (h : DataW.trod (fun _ => ()) P w 0 sp false fuel t cs = some (.iface nm d, p)) : ∃ u v, cs = [.iface u v] := by
 cases fuel with
 | zero => simp [DataW.trod] at h
 | succ n =>
  rcases cs with _ | ⟨c, _ | ⟨c2, cs⟩⟩
  ·simp [DataW.trod, ht] at h
  ·cases c <;> first | exact ⟨_, _, rfl⟩ | simp [DataW.trod, ht] at h
  ·simp [DataW.trod, ht] at h
theorem lt_heap {P : Program} {w : World} {nm : String} {g : Nat} {cs : Array Value} (hg : P.globalNamed nm = some g) (hv : w.var? P nm = some cs) : g < w.heap.size := by
 simp only [World.var?, hg, Option.bind_some] at hv
 split at hv
 ·rename_i hq; exact (Array.getElem?_eq_some_iff.1 hq).1
 ·cases hv
theorem gc_er {P : Program} {w : World} {l : List (String × DataW Unit)} {n nm : String} {g : Nat} {t : TypeId} {d : DataW Unit} {ms : Array (String × TypeId)} (h : laidMet P l w) (hm : (n, .iface nm d) ∈ l) (hg : P.globalNamed n = some g) (ht : (P.globals[g]?).map (·.type) = some t) (hu : P.underlying t = some (.interface ms)) :
  Gc (HeapZ w) w g isEr := by
 obtain ⟨g', t', cs, fuel, p, hg', ht', hv, hr⟩ := Lib.laidMet.reads h hm
 obtain rfl := Option.some.inj (hg.symm.trans hg')
 obtain rfl := Option.some.inj (ht.symm.trans ht')
 obtain ⟨u, v, hcs⟩ := iface_of_trod hu hr
 have h0 := World.var?_cell hg hv 0
 have h1 : cs[0]? = some (.iface u v) := by rw [← Array.getElem?_toList, hcs]; rfl
 exact ⟨lt_heap hg hv, _, h0.trans h1, .inr ⟨u, v, rfl⟩⟩
theorem gc_i64 {P : Program} {w : World} {g : Nat} {t : TypeId} {zero : Array Value} (h : w.ShapedOpen P) (hg : g < P.globals.size)
  (h0 : ((begin P (fun _ _ => 0) default).world.heap[g]?).bind Obj.row? = some (zero, t)) (hz : zero.size = 1)
  (hb : P.buildable t = true) (hc : P.cellTypes P.depth t = some [t]) (hu : P.underlying t = some (.int .i64)) : Gc (HeapZ w) w g isI64 := by
 obtain ⟨m, hm⟩ := cell_of_shapedOpen_int h hg h0 hz hb hc hu
 refine ⟨?_, _, hm, m, rfl⟩
 unfold World.cell? at hm
 split at hm
 ·rename_i hq; exact (Array.getElem?_eq_some_iff.1 hq).1
 ·cases hm
theorem handed_shaped {H : Type} {enc : TypeId × Value → H} {C : Checked} {os : Os} {f : FuncId} {fn : Func} {s : ChangeSpec} {conds : List PathCond} {apart fresh handsOn again : Bool} {X : World → Array Value → Prop}
  (hX : ∀ (w w' : World) (args : Array Value), w.heap = w'.heap → X w args → X w' args)
  (own : ownKnob C.prog.godebug = none) (started : os.Started) (noInit : C.prog.inits.idxOf? f = none) (hfn : C.prog.funcs[f]? = some fn)
  (witness : ∃ (w : World) (tape : Tape) (i : Input), w.os = os ∧ (w.forCall tape i).Shaped C.prog ∧ i.vars = [] ∧ Input.okWide C.prog (w.forCall tape i) .any w.heap.size f i ∧
   ((s.pre enc C.prog fn conds apart (w.forCall tape i).memory i.args ∧ X (w.forCall tape i).memory i.args) ∧ sizedMet enc C.prog fn (OpenSpec.ofChange s) apart (w.forCall tape i).memory i.args) ∧ ({} : Assume).holds C.prog (lone (Frame.enter C.prog f i.args .normal) [] (w.forCall tape i)))
  (contract : ∀ (W : World) (base : Nat) (args : Array Value) (ds gs : List (DataW H)) (before : List MemPlace),
   (∀ (j : Nat) t v, fn.params[j]? = some t → args[j]? = some v → Value.okWide C.prog W .any base t v) →
   DataW.Whole enc C.prog fn.params.toList s.vars apart W args.toList ds gs before →
   (DataW.weightsEach C.prog (fn.params.toList ++ s.plain.varTypes C.prog) (ds ++ gs)).all (· ≤ reachBytes) = true → X W args → W.ShapedOpen C.prog →
   Calls C.prog f args W fun e W' => ∃ v, e = .returned v ∧ s.post enc C.prog fn apart fresh handsOn again W args v W') :
  ReturnsInHanded {} C os f .any (fun w args => (s.pre enc C.prog fn conds apart w args ∧ X w args) ∧ sizedMet enc C.prog fn (OpenSpec.ofChange s) apart w args) (s.post enc C.prog fn apart fresh handsOn again) := by
 refine returnsInHanded_of_calls own started noInit witness fun w tape i _ hsh _ hok hpre _ => ?_
 obtain ⟨_, _, _, fn', hfn', _, _, _, _, hval⟩ := hok
 obtain rfl := Option.some.inj (hfn'.symm.trans hfn)
 obtain ⟨⟨⟨ds, gs, before, hw, _⟩, hx⟩, hz⟩ := hpre
 refine (contract (w.forCall tape i) w.heap.size i.args ds gs before hval (DataW.Whole.of_heap (w' := w.forCall tape i) (by rfl) hw) (hz.weights hw) (hX _ _ _ (by rfl) hx) hsh).mono ?_
 rintro e W' ⟨v, rfl, hp⟩
 exact ChangeSpec.post_blind hp
end Go.Proofs.YtffdckhgkhhbjaaGreatDoor.E

namespace Go.Proofs.YtffdckhgkhhbjaaGreatDoor.E
open Go Go.RowKit
def mvB (n : Nat) (F : List (Nat × Value)) : Option Nat → Op → Option (Nat × Bool) → Option (Nat × Value)
 | some t, .move x, none => bif Nat.blt t n then (ev F x).map fun v => (t, v) else none
 | some t, .assign x, none => bif Nat.blt t n then (ev F x).map fun v => (t, v) else none
 | _, _, _ => none
section
variable {P : Program} {ops : Array Oper} {Q : Exit → Act → World → Prop} {o : Oper} {rest : List Oper} {a : Act} {w : World} {n t : Nat} {D : List Deferred} {F : List (Nat × Value)} {v : Value}
theorem x_m (hA : FR n D a F) (h : mvB n F o.dst o.op o.guard = some (t, v)) (kk : ∀ a', FR n D a' ((t, v) :: F) → wpList P ops Q rest a' w) : wpList P ops Q (o :: rest) a w := by
 unfold mvB at h
 split at h
 ·rename_i t' x hd ho hg
  cases hb : Nat.blt t' n with
  | false => rw [hb] at h; cases h
  | true =>
   rw [hb] at h
   cases hx : ev F x with
   | none => rw [hx] at h; cases h
   | some u => rw [hx] at h; cases h; exact x_move hA kk ho hx hd hg hb
 ·rename_i t' x hd ho hg
  cases hb : Nat.blt t' n with
  | false => rw [hb] at h; cases h
  | true =>
   rw [hb] at h
   cases hx : ev F x with
   | none => rw [hx] at h; cases h
   | some u => rw [hx] at h; cases h; exact x_assign hA kk ho hx hd hg hb
 ·cases h
def offsB (n : Nat) (j : Nat) (b : Bool) (tg : Nat) : Nat → List Oper → List (Nat × Value) → Option (List Oper × List (Nat × Value))
 | 0, l, F => some (l, F)
 | k + 1, o :: l, F => match o.guard, o.dst with
  | some (j', b'), some t => bif Nat.beq j j' && (b == b') && Nat.blt t n && !Nat.beq t tg then offsB n j b tg k l ((t, undef) :: F) else none
  | _, _ => none
 | _, [], _ => none
theorem x_offsI {j tg : Nat} {b b' : Bool} (hb : b' = !b) (hj : (ops[j]?).bind (·.dst) = some tg) : ∀ (k : Nat) {l rest : List Oper} {F F' : List (Nat × Value)} {a : Act}, FR n D a F → lk F tg = some (.bool b') → offsB n j b tg k l F = some (rest, F') →
  (∀ a', FR n D a' F' → wpList P ops Q rest a' w) → wpList P ops Q l a w
 | 0, l, rest, F, F', a, hA, hv, h, kk => by cases h; exact kk a hA
 | k + 1, [], rest, F, F', a, hA, hv, h, kk => by cases h
 | k + 1, o :: l, rest, F, F', a, hA, hv, h, kk => by
  unfold offsB at h
  split at h
  ·rename_i j' b'' t hg hd
   cases hc : Nat.beq j j' && (b == b'') && Nat.blt t n && !Nat.beq t tg with
   | false => rw [hc] at h; cases h
   | true =>
    rw [hc] at h
    simp only [Bool.and_eq_true, beq_iff_eq, Bool.not_eq_true'] at hc
    obtain ⟨⟨⟨h1, h2⟩, h3⟩, h4⟩ := hc
    have h1 := Nat.eq_of_beq_eq_true h1
    subst h1
    subst h2
    refine x_off hb hA (fun a' hA' => ?_) hg hj hv hd h3
    exact x_offsI hb hj k hA' (by simp only [lk, h4]; exact hv) h kk
  ·cases h
theorem xO {j tg : Nat} {b b' : Bool} {l : List Oper} {F' : List (Nat × Value)} (k : Nat) (hb : b' = !b) (hA : FR n D a F) (h : (l.head?.bind (·.guard), (ops[j]?).bind (·.dst), lk F tg, offsB n j b tg k l F) = (some (j, b), some tg, some (.bool b'), some (rest, F'))) (kk : ∀ a', FR n D a' F' → wpList P ops Q rest a' w) : wpList P ops Q l a w :=
 x_offsI hb (congrArg (·.2.1) h) k hA (congrArg (·.2.2.1) h) (congrArg (·.2.2.2) h) kk
section
variable {M : List Nat} {F0 VL E : List (Nat × Value)} {effs done : List Nat} {p m e : Nat}
def mvP (ops : Array Oper) (M : List Nat) (F0 VL : List (Nat × Value)) (p : Nat) : Option Value := match ops[p]? with
 | none => none
 | some o => match o.guard with
  | some _ => none
  | none => match o.op with
   | .move (.tmp t) => src ops M F0 VL p t
   | .assign (.tmp t) => src ops M F0 VL p t
   | .move (.const c) => some c
   | .assign (.const c) => some c
   | _ => none
theorem pm (h : (mvP ops M F0 VL p, lk VL p) = (some v, some v)) : PureOk P ops n D M F0 VL w p := by
 have h1 : mvP ops M F0 VL p = some v := congrArg (·.1) h
 have h2 : lk VL p = some v := congrArg (·.2) h
 unfold mvP at h1
 split at h1
 ·cases h1
 ·rename_i o ho
  split at h1
  ·cases h1
  ·rename_i hg
   have one : ∀ t, src ops M F0 VL p t = some v → (∀ a, FR n D a [(t, v)] → RunV P o a w v) → PureOk P ops n D M F0 VL w p := fun t hs hr =>
    ⟨o, v, [(t, v)], ho, h2, by simp [hs], fun a he => by unfold Runs; rw [if_pos (by simp [Region.wanted, hg])]; exact hr a he⟩
   have two : (∀ a, FR n D a [] → RunV P o a w v) → PureOk P ops n D M F0 VL w p := fun hr =>
    ⟨o, v, [], ho, h2, rfl, fun a he => by unfold Runs; rw [if_pos (by simp [Region.wanted, hg])]; exact hr a he⟩
   split at h1
   ·rename_i t hop; exact one t h1 fun a he => r_move hop (he.ev (x := .tmp t) (by simp [ev, lk]))
   ·rename_i t hop; exact one t h1 fun a he => r_assign hop (he.ev (x := .tmp t) (by simp [ev, lk]))
   ·rename_i c hop; cases h1; exact two fun a he => r_move hop rfl
   ·rename_i c hop; cases h1; exact two fun a he => r_assign hop rfl
   ·cases h1
theorem pt (E : List (Nat × Value)) (ht : (ops[p]?, lk VL p, o.guard, E.map (fun q => src ops M F0 VL p q.1)) = (some o, some v, none, E.map (fun q => some q.2))) (h : ∀ a, FR n D a E → RunV P o a w v) : PureOk P ops n D M F0 VL w p :=
 pu (congrArg (·.1) ht) (congrArg (·.2.1) ht) E h (congrArg (·.2.2.1) ht) (congrArg (·.2.2.2) ht)
theorem et (E : List (Nat × Value)) (ht : (ops[e]?, o.guard, E.map (fun q => src ops M F0 VL e q.1)) = (some o, none, E.map (fun q => some q.2)))
  (h : ∀ a, FR n D a E → ∀ K : Act → World → Prop, (∀ v NV w', NV.all (fun q => (lk ((e, v) :: VL) q.1).isNone) = true → DrawOk P ops Q n D M F0 effs m (e :: done) (NV ++ (e, v) :: VL) w' → K (a.put o.dst v) w') → o.wp P a w K Q) : EffOk P ops Q n D M F0 effs m done VL w e :=
 ef (congrArg (·.1) ht) E h (congrArg (·.2.1) ht) (congrArg (·.2.2) ht)
theorem dF (ps es : List Nat) (hp : (candP ops M effs done, candE ops M effs done, effs.all (done.contains ·)) = (ps, es, false)) (h : AllP (PureOk P ops n D M F0 VL w) ps) (hE : AllP (EffOk P ops Q n D M F0 effs m done VL w) es) : DrawOk P ops Q n D M F0 effs (m + 1) done VL w :=
 dEff ps es (congrArg (·.1) hp) h (congrArg (·.2.1) hp) (congrArg (·.2.2) hp) hE
end
def dsB (n : Nat) : Option Nat → Option (Nat × Bool) → Option Nat
 | some t, none => bif Nat.blt t n then some t else none
 | _, _ => none
theorem x_v (hA : FR n D a F) (r : RunV P o a w v) (h : dsB n o.dst o.guard = some t) (kk : ∀ a', FR n D a' ((t, v) :: F) → wpList P ops Q rest a' w) : wpList P ops Q (o :: rest) a w := by
 unfold dsB at h
 split at h
 ·rename_i t' hd hg
  cases hb : Nat.blt t' n with
  | false => rw [hb] at h; cases h
  | true => rw [hb] at h; cases h; exact x_val hA r kk hd hg hb
 ·cases h
theorem wn (h : Q .normal a w) : wpList P ops Q [] a w := wpList_nil h
theorem ws {id : Nat} {c : Code} (h : ∀ K : Act → World → Prop, (∀ a w, c.wp P Q a w → K a w) → wpList P ops (Exit.then K Q) ops.toList a w) : ((Code.region id ops false).seq c).wp P Q a w :=
 wp_seq_k fun K hK => wp_reg (h K hK)
end
end Go.Proofs.YtffdckhgkhhbjaaGreatDoor.E
namespace Go.Proofs.YtffdckhgkhhbjaaGreatDoor.M
open Go Go.RowKit Go.Proofs.YtffdckhgkhhbjaaGreatDoor.E
set_option linter.unusedVariables false
set_option linter.unusedSimpArgs false
structure S72 where
  f0 : (List UInt8)
  f1 : (List Int)
  f2 : Int
structure S66 where
  f0 : (List S72)
  f1 : Int
  f2 : Int
  f3 : Bool
  f4 : Int
structure S121 where
  f0 : (List Int)
structure S59 where
  f0 : Int
  f1 : Nat
  f2 : Bool
  f3 : Nat
  f4 : Nat
structure S56 where
  f0 : Int
  f1 : Int
structure S61 where
  f0 : (List UInt8)
  f1 : S56
  f2 : S59
structure S63 where
  f0 : Bool
  f1 : Int
  f2 : S61
structure S33 where
  f0 : Int
  f1 : (List UInt8)
  f2 : (List S63)
structure S36 where
  f0 : Int
  f1 : (List Int)
  f2 : (List S63)
  f3 : Int
  f4 : (List Int)
def gl_page_table : List Int := [0, 498536548, 997073096, 651767980, 1994146192, 1802195444, 1303535960, 1342533948, 3988292384, 4027552580, 3604390888, 3412177804, 2607071920, 2262029012, 2685067896, 3183342108]
def k59 : Kd S59 where
  sz := 5
  V x cs := cs = [.int .u64 x.f0, .float .f64 x.f1, .bool x.f2, .float .f64 x.f3, .float .f64 x.f4]
  len h := by rw [h]; rfl
  one h := by rw [h]; simp [Value.oneCell', str]
def k56 : Kd S56 where
  sz := 2
  V x cs := cs = [.int .i64 x.f0, .int .i64 x.f1]
  len h := by rw [h]; rfl
  one h := by rw [h]; simp [Value.oneCell', str]
def k61 : Kd S61 where
  sz := 8
  V x cs := cs = [str x.f0, .int .i64 x.f1.f0, .int .i64 x.f1.f1, .int .u64 x.f2.f0, .float .f64 x.f2.f1, .bool x.f2.f2, .float .f64 x.f2.f3, .float .f64 x.f2.f4]
  len h := by rw [h]; rfl
  one h := by rw [h]; simp [Value.oneCell', str]
def k63 : Kd S63 where
  sz := 10
  V x cs := cs = [.bool x.f0, .int .u64 x.f1, str x.f2.f0, .int .i64 x.f2.f1.f0, .int .i64 x.f2.f1.f1, .int .u64 x.f2.f2.f0, .float .f64 x.f2.f2.f1, .bool x.f2.f2.f2, .float .f64 x.f2.f2.f3, .float .f64 x.f2.f2.f4]
  len h := by rw [h]; rfl
  one h := by rw [h]; simp [Value.oneCell', str]
def kz36 (Z : Nat → Prop) (wz : World) : Kd S36 where
  sz := 5
  V x cs := ∃ (A1 : Option Addr) (n1 : Nat) (c1 : Nat) (A2 : Option Addr) (n2 : Nat) (c2 : Nat) (A4 : Option Addr) (n4 : Nat) (c4 : Nat), cs = [.int .u8 x.f0, .slice A1 n1 c1, .slice A2 n2 c2, .int .u8 x.f3, .slice A4 n4 c4] ∧ Imm Z wz (kI .u8) A1 n1 c1 x.f1 ∧ Imm Z wz k63 A2 n2 c2 x.f2 ∧ Imm Z wz (kI .i64) A4 n4 c4 x.f4
  len h := by obtain ⟨_, _, _, _, _, _, _, _, _, h, _⟩ := h; rw [h]; rfl
  one h := by obtain ⟨_, _, _, _, _, _, _, _, _, h, _⟩ := h; rw [h]; simp [Value.oneCell', str]
theorem kz36_sub {Z Z' : Nat → Prop} {wz wz' : World} (hs : Sub Z wz Z' wz') (x : S36) (cs : List Value) (h : (kz36 Z wz).V x cs) : (kz36 Z' wz').V x cs := by
  obtain ⟨A1, n1, c1, A2, n2, c2, A4, n4, c4, h, h1, h2, h4⟩ := h
  exact ⟨_, _, _, _, _, _, _, _, _, h, (Imm.sub h1 hs), (Imm.sub h2 hs), (Imm.sub h4 hs)⟩
def kp72 : Kd (S72 × Hd) where
  sz := 3
  V p cs := cs = [str p.1.f0, .slice p.2.1 p.2.2.1 p.2.2.2, .int .i64 p.1.f2]
  len h := by rw [h]; rfl
  one h := by rw [h]; simp [Value.oneCell', str]
def obj66 (g : Nat) (x : S66) : HP := ex fun i : Option Addr × Nat × Nat => star [blk g 66 [.slice i.1 i.2.1 i.2.2, .int .i64 x.f1, .int .i64 x.f2, .bool x.f3, .int .i64 x.f4], own2 kp72 (kI .u8) 5 (fun x : S72 => x.f1) 72 i.1 i.2.1 i.2.2 x.f0]
theorem obj66_open {r w : World} {L : List HP} {g : Nat} {x : S66} (h : SH r (obj66 g x :: L) w) : ∃ A0_ n0_ c0_, SH r (blk g 66 [.slice A0_ n0_ c0_, .int .i64 x.f1, .int .i64 x.f2, .bool x.f3, .int .i64 x.f4] :: own2 kp72 (kI .u8) 5 (fun x : S72 => x.f1) 72 A0_ n0_ c0_ x.f0 :: L) w := by
  obtain ⟨i, h⟩ := h.unex
  exact ⟨i.1, i.2.1, i.2.2, h.unstar⟩
theorem obj66_mk {r w : World} {L : List HP} {g : Nat} {x : S66} {A0_ : Option Addr} {n0_ : Nat} {c0_ : Nat} (h : SH r (blk g 66 [.slice A0_ n0_ c0_, .int .i64 x.f1, .int .i64 x.f2, .bool x.f3, .int .i64 x.f4] :: own2 kp72 (kI .u8) 5 (fun x : S72 => x.f1) 72 A0_ n0_ c0_ x.f0 :: L) w) : SH r (obj66 g x :: L) w := SH.ex (A0_, n0_, c0_) (SH.star (Ls := [blk g 66 [.slice A0_ n0_ c0_, .int .i64 x.f1, .int .i64 x.f2, .bool x.f3, .int .i64 x.f4], own2 kp72 (kI .u8) 5 (fun x : S72 => x.f1) 72 A0_ n0_ c0_ x.f0]) h)
def obj9 (g : Nat) (x : (List UInt8)) : HP := ex fun i : Unit => star [blk g 9 [str x]]
theorem obj9_open {r w : World} {L : List HP} {g : Nat} {x : (List UInt8)} (h : SH r (obj9 g x :: L) w) : SH r (blk g 9 [str x] :: L) w := by
  obtain ⟨i, h⟩ := h.unex
  exact h.unstar
theorem obj9_mk {r w : World} {L : List HP} {g : Nat} {x : (List UInt8)} (h : SH r (blk g 9 [str x] :: L) w) : SH r (obj9 g x :: L) w := SH.ex (()) (SH.star (Ls := [blk g 9 [str x]]) h)
def obj121 (Z : Nat → Prop) (wz : World) (g : Nat) (x : S121) : HP := ex fun i : Option Addr × Nat × Nat => star [blk g 121 [.slice i.1 i.2.1 i.2.2], pure' (Imm Z wz (kI .u8) i.1 i.2.1 i.2.2 x.f0)]
theorem obj121_open {r w : World} {L : List HP} {Z : Nat → Prop} {wz : World} {g : Nat} {x : S121} (h : SH r (obj121 Z wz g x :: L) w) : ∃ A0_ n0_ c0_, SH r (blk g 121 [.slice A0_ n0_ c0_] :: pure' (Imm Z wz (kI .u8) A0_ n0_ c0_ x.f0) :: L) w := by
  obtain ⟨i, h⟩ := h.unex
  exact ⟨i.1, i.2.1, i.2.2, h.unstar⟩
theorem obj121_mk {r w : World} {L : List HP} {Z : Nat → Prop} {wz : World} {g : Nat} {x : S121} {A0_ : Option Addr} {n0_ : Nat} {c0_ : Nat} (h : SH r (blk g 121 [.slice A0_ n0_ c0_] :: pure' (Imm Z wz (kI .u8) A0_ n0_ c0_ x.f0) :: L) w) : SH r (obj121 Z wz g x :: L) w := SH.ex (A0_, n0_, c0_) (SH.star (Ls := [blk g 121 [.slice A0_ n0_ c0_], pure' (Imm Z wz (kI .u8) A0_ n0_ c0_ x.f0)]) h)
def obj31 (g : Nat) (x : (List S63)) : HP := ex fun i : Option Addr × Nat × Nat => star [blk g 31 [.slice i.1 i.2.1 i.2.2], own k63 63 i.1 i.2.1 i.2.2 x]
theorem obj31_open {r w : World} {L : List HP} {g : Nat} {x : (List S63)} (h : SH r (obj31 g x :: L) w) : ∃ A0_ n0_ c0_, SH r (blk g 31 [.slice A0_ n0_ c0_] :: own k63 63 A0_ n0_ c0_ x :: L) w := by
  obtain ⟨i, h⟩ := h.unex
  exact ⟨i.1, i.2.1, i.2.2, h.unstar⟩
theorem obj31_mk {r w : World} {L : List HP} {g : Nat} {x : (List S63)} {A0_ : Option Addr} {n0_ : Nat} {c0_ : Nat} (h : SH r (blk g 31 [.slice A0_ n0_ c0_] :: own k63 63 A0_ n0_ c0_ x :: L) w) : SH r (obj31 g x :: L) w := SH.ex (A0_, n0_, c0_) (SH.star (Ls := [blk g 31 [.slice A0_ n0_ c0_], own k63 63 A0_ n0_ c0_ x]) h)
def obj30 (g : Nat) (x : Int) : HP := ex fun i : Unit => star [blk g 30 [.int .u64 x]]
theorem obj30_open {r w : World} {L : List HP} {g : Nat} {x : Int} (h : SH r (obj30 g x :: L) w) : SH r (blk g 30 [.int .u64 x] :: L) w := by
  obtain ⟨i, h⟩ := h.unex
  exact h.unstar
theorem obj30_mk {r w : World} {L : List HP} {g : Nat} {x : Int} (h : SH r (blk g 30 [.int .u64 x] :: L) w) : SH r (obj30 g x :: L) w := SH.ex (()) (SH.star (Ls := [blk g 30 [.int .u64 x]]) h)
def badC : List PanicEntry := [{ v := .iface 118 (.agg #[]), recovered := false }]
theorem by3 : Tryz.prog.bytesOf 3 = 8 := by kernel_rfl
theorem by36 : Tryz.prog.bytesOf 36 = 88 := by kernel_rfl
theorem by5 : Tryz.prog.bytesOf 5 = 1 := by kernel_rfl
theorem by63 : Tryz.prog.bytesOf 63 = 88 := by kernel_rfl
theorem ce2 : Tryz.prog.cellsOf 2 = 1 := by kernel_rfl
theorem ce29 : Tryz.prog.cellsOf 29 = 1 := by kernel_rfl
theorem ce3 : Tryz.prog.cellsOf 3 = 1 := by kernel_rfl
theorem ce30 : Tryz.prog.cellsOf 30 = 1 := by kernel_rfl
theorem ce31 : Tryz.prog.cellsOf 31 = 1 := by kernel_rfl
theorem ce34 : Tryz.prog.cellsOf 34 = 1 := by kernel_rfl
theorem ce36 : Tryz.prog.cellsOf 36 = 5 := by kernel_rfl
theorem ce4 : Tryz.prog.cellsOf 4 = 1 := by kernel_rfl
theorem ce47 : Tryz.prog.cellsOf 47 = 1 := by kernel_rfl
theorem ce5 : Tryz.prog.cellsOf 5 = 1 := by kernel_rfl
theorem ce56 : Tryz.prog.cellsOf 56 = 2 := by kernel_rfl
theorem ce57 : Tryz.prog.cellsOf 57 = 1 := by kernel_rfl
theorem ce59 : Tryz.prog.cellsOf 59 = 5 := by kernel_rfl
theorem ce61 : Tryz.prog.cellsOf 61 = 8 := by kernel_rfl
theorem ce63 : Tryz.prog.cellsOf 63 = 10 := by kernel_rfl
theorem ce9 : Tryz.prog.cellsOf 9 = 1 := by kernel_rfl
theorem en10 : EN Tryz.prog 10 := EN_of Tryz.func10 (by kernel_rfl) rfl
theorem en101 : EN Tryz.prog 101 := EN_of Tryz.func101 (by kernel_rfl) rfl
theorem en11 : EN Tryz.prog 11 := EN_of Tryz.func11 (by kernel_rfl) rfl
theorem en111 : EN Tryz.prog 111 := EN_of Tryz.func111 (by kernel_rfl) rfl
theorem en12 : EN Tryz.prog 12 := EN_of Tryz.func12 (by kernel_rfl) rfl
theorem en14 : EN Tryz.prog 14 := EN_of Tryz.func14 (by kernel_rfl) rfl
theorem en15 : EN Tryz.prog 15 := EN_of Tryz.func15 (by kernel_rfl) rfl
theorem en16 : EN Tryz.prog 16 := EN_of Tryz.func16 (by kernel_rfl) rfl
theorem en17 : EN Tryz.prog 17 := EN_of Tryz.func17 (by kernel_rfl) rfl
theorem en20 : EN Tryz.prog 20 := EN_of Tryz.func20 (by kernel_rfl) rfl
theorem en21 : EN Tryz.prog 21 := EN_of Tryz.func21 (by kernel_rfl) rfl
theorem en22 : EN Tryz.prog 22 := EN_of Tryz.func22 (by kernel_rfl) rfl
theorem en23 : EN Tryz.prog 23 := EN_of Tryz.func23 (by kernel_rfl) rfl
theorem en24 : EN Tryz.prog 24 := EN_of Tryz.func24 (by kernel_rfl) rfl
theorem en25 : EN Tryz.prog 25 := EN_of Tryz.func25 (by kernel_rfl) rfl
theorem en26 : EN Tryz.prog 26 := EN_of Tryz.func26 (by kernel_rfl) rfl
theorem en27 : EN Tryz.prog 27 := EN_of Tryz.func27 (by kernel_rfl) rfl
theorem en28 : EN Tryz.prog 28 := EN_of Tryz.func28 (by kernel_rfl) rfl
theorem en29 : EN Tryz.prog 29 := EN_of Tryz.func29 (by kernel_rfl) rfl
theorem en30 : EN Tryz.prog 30 := EN_of Tryz.func30 (by kernel_rfl) rfl
theorem en32 : EN Tryz.prog 32 := EN_of Tryz.func32 (by kernel_rfl) rfl
theorem en33 : EN Tryz.prog 33 := EN_of Tryz.func33 (by kernel_rfl) rfl
theorem en34 : EN Tryz.prog 34 := EN_of Tryz.func34 (by kernel_rfl) rfl
theorem en35 : EN Tryz.prog 35 := EN_of Tryz.func35 (by kernel_rfl) rfl
theorem en36 : EN Tryz.prog 36 := EN_of Tryz.func36 (by kernel_rfl) rfl
theorem en37 : EN Tryz.prog 37 := EN_of Tryz.func37 (by kernel_rfl) rfl
theorem en38 : EN Tryz.prog 38 := EN_of Tryz.func38 (by kernel_rfl) rfl
theorem en41 : EN Tryz.prog 41 := EN_of Tryz.func41 (by kernel_rfl) rfl
theorem en42 : EN Tryz.prog 42 := EN_of Tryz.func42 (by kernel_rfl) rfl
theorem en43 : EN Tryz.prog 43 := EN_of Tryz.func43 (by kernel_rfl) rfl
theorem en44 : EN Tryz.prog 44 := EN_of Tryz.func44 (by kernel_rfl) rfl
theorem en45 : EN Tryz.prog 45 := EN_of Tryz.func45 (by kernel_rfl) rfl
theorem en46 : EN Tryz.prog 46 := EN_of Tryz.func46 (by kernel_rfl) rfl
theorem en47 : EN Tryz.prog 47 := EN_of Tryz.func47 (by kernel_rfl) rfl
theorem en48 : EN Tryz.prog 48 := EN_of Tryz.func48 (by kernel_rfl) rfl
theorem en49 : EN Tryz.prog 49 := EN_of Tryz.func49 (by kernel_rfl) rfl
theorem en50 : EN Tryz.prog 50 := EN_of Tryz.func50 (by kernel_rfl) rfl
theorem en51 : EN Tryz.prog 51 := EN_of Tryz.func51 (by kernel_rfl) rfl
theorem en52 : EN Tryz.prog 52 := EN_of Tryz.func52 (by kernel_rfl) rfl
theorem en53 : EN Tryz.prog 53 := EN_of Tryz.func53 (by kernel_rfl) rfl
theorem en54 : EN Tryz.prog 54 := EN_of Tryz.func54 (by kernel_rfl) rfl
theorem en55 : EN Tryz.prog 55 := EN_of Tryz.func55 (by kernel_rfl) rfl
theorem en56 : EN Tryz.prog 56 := EN_of Tryz.func56 (by kernel_rfl) rfl
theorem en57 : EN Tryz.prog 57 := EN_of Tryz.func57 (by kernel_rfl) rfl
theorem en58 : EN Tryz.prog 58 := EN_of Tryz.func58 (by kernel_rfl) rfl
theorem en61 : EN Tryz.prog 61 := EN_of Tryz.func61 (by kernel_rfl) rfl
theorem en62 : EN Tryz.prog 62 := EN_of Tryz.func62 (by kernel_rfl) rfl
theorem en66 : EN Tryz.prog 66 := EN_of Tryz.func66 (by kernel_rfl) rfl
theorem en67 : EN Tryz.prog 67 := EN_of Tryz.func67 (by kernel_rfl) rfl
theorem en68 : EN Tryz.prog 68 := EN_of Tryz.func68 (by kernel_rfl) rfl
theorem en69 : EN Tryz.prog 69 := EN_of Tryz.func69 (by kernel_rfl) rfl
theorem en7 : EN Tryz.prog 7 := EN_of Tryz.func7 (by kernel_rfl) rfl
theorem en70 : EN Tryz.prog 70 := EN_of Tryz.func70 (by kernel_rfl) rfl
theorem en71 : EN Tryz.prog 71 := EN_of Tryz.func71 (by kernel_rfl) rfl
theorem en72 : EN Tryz.prog 72 := EN_of Tryz.func72 (by kernel_rfl) rfl
theorem en73 : EN Tryz.prog 73 := EN_of Tryz.func73 (by kernel_rfl) rfl
theorem en74 : EN Tryz.prog 74 := EN_of Tryz.func74 (by kernel_rfl) rfl
theorem en77 : EN Tryz.prog 77 := EN_of Tryz.func77 (by kernel_rfl) rfl
theorem en8 : EN Tryz.prog 8 := EN_of Tryz.func8 (by kernel_rfl) rfl
theorem en85 : EN Tryz.prog 85 := EN_of Tryz.func85 (by kernel_rfl) rfl
theorem en86 : EN Tryz.prog 86 := EN_of Tryz.func86 (by kernel_rfl) rfl
theorem en87 : EN Tryz.prog 87 := EN_of Tryz.func87 (by kernel_rfl) rfl
theorem en9 : EN Tryz.prog 9 := EN_of Tryz.func9 (by kernel_rfl) rfl
theorem en91 : EN Tryz.prog 91 := EN_of Tryz.func91 (by kernel_rfl) rfl
theorem ex100 (b : Nat) : EXT Tryz.prog 100 #[.float .f64 b] (.int .u64 b) := fun w => by kernel_rfl
theorem ex107 (n : Int) : EXT Tryz.prog 107 #[.int .u64 n] (.float .f64 n.toNat) := fun w => by kernel_rfl
theorem fa121_0 : FA Tryz.prog 121 0 0 := fun ad w => by kernel_rfl
theorem fa36_1 : FA Tryz.prog 36 1 1 := fun ad w => by kernel_rfl
theorem fa36_2 : FA Tryz.prog 36 2 2 := fun ad w => by kernel_rfl
theorem fa56_0 : FA Tryz.prog 56 0 0 := fun ad w => by kernel_rfl
theorem fa56_1 : FA Tryz.prog 56 1 1 := fun ad w => by kernel_rfl
theorem fa59_0 : FA Tryz.prog 59 0 0 := fun ad w => by kernel_rfl
theorem fa59_1 : FA Tryz.prog 59 1 1 := fun ad w => by kernel_rfl
theorem fa59_2 : FA Tryz.prog 59 2 2 := fun ad w => by kernel_rfl
theorem fa59_3 : FA Tryz.prog 59 3 3 := fun ad w => by kernel_rfl
theorem fa59_4 : FA Tryz.prog 59 4 4 := fun ad w => by kernel_rfl
theorem fa61_0 : FA Tryz.prog 61 0 0 := fun ad w => by kernel_rfl
theorem fa61_1 : FA Tryz.prog 61 1 1 := fun ad w => by kernel_rfl
theorem fa61_2 : FA Tryz.prog 61 2 3 := fun ad w => by kernel_rfl
theorem fa63_0 : FA Tryz.prog 63 0 0 := fun ad w => by kernel_rfl
theorem fa63_1 : FA Tryz.prog 63 1 1 := fun ad w => by kernel_rfl
theorem fa63_2 : FA Tryz.prog 63 2 2 := fun ad w => by kernel_rfl
theorem fa66_0 : FA Tryz.prog 66 0 0 := fun ad w => by kernel_rfl
theorem fa66_1 : FA Tryz.prog 66 1 1 := fun ad w => by kernel_rfl
theorem fa66_2 : FA Tryz.prog 66 2 2 := fun ad w => by kernel_rfl
theorem fa66_3 : FA Tryz.prog 66 3 3 := fun ad w => by kernel_rfl
theorem fa66_4 : FA Tryz.prog 66 4 4 := fun ad w => by kernel_rfl
theorem fa72_0 : FA Tryz.prog 72 0 0 := fun ad w => by kernel_rfl
theorem fa72_1 : FA Tryz.prog 72 1 1 := fun ad w => by kernel_rfl
theorem fa72_2 : FA Tryz.prog 72 2 2 := fun ad w => by kernel_rfl
theorem inf5 : (Tryz.prog.info? 5).map (fun i => (i.zero, i.size, i.bytes)) = some (some (.int .u8 0), 1, 1) := by kernel_rfl
theorem inf63 : (Tryz.prog.info? 63).map (fun i => (i.zero, i.size, i.bytes)) = some (some (.agg #[(.bool false), (.int .u64 0), (str []), (.int .i64 0), (.int .i64 0), (.int .u64 0), (.float .f64 0), (.bool false), (.float .f64 0), (.float .f64 0)]), 10, 88) := by kernel_rfl
theorem inf72 : (Tryz.prog.info? 72).map (fun i => (i.zero, i.size, i.bytes)) = some (some (.agg #[(str []), (.slice none 0 0), (.int .i64 0)]), 3, 48) := by kernel_rfl
theorem inf9 : (Tryz.prog.info? 9).map (fun i => (i.zero, i.size, i.bytes)) = some (some (str []), 1, 16) := by kernel_rfl
theorem ovl39 {args : Array Value} {w : World} (h : (Extern.SlicesOverlaps.overlaps #[64, 64] #[4] args).run Tryz.prog w = .ok (.bool false) w) : (callFunc 39 args).run Tryz.prog w = .ok (.value (.bool false)) w := by
  rw [run_callFunc_extern Tryz.func39 (by kernel_rfl) (by kernel_rfl) (by kernel_rfl) (e := Extern.SlicesOverlaps.overlaps #[64, 64] #[4]) (by kernel_rfl), h]
  rfl
theorem sz118 : (Tryz.prog.info? 118).map (·.size) = some 0 := by kernel_rfl
theorem sz2 : (Tryz.prog.info? 2).map (·.size) = some 1 := by kernel_rfl
theorem sz29 : (Tryz.prog.info? 29).map (·.size) = some 1 := by kernel_rfl
theorem sz3 : (Tryz.prog.info? 3).map (·.size) = some 1 := by kernel_rfl
theorem sz30 : (Tryz.prog.info? 30).map (·.size) = some 1 := by kernel_rfl
theorem sz31 : (Tryz.prog.info? 31).map (·.size) = some 1 := by kernel_rfl
theorem sz36 : (Tryz.prog.info? 36).map (·.size) = some 5 := by kernel_rfl
theorem sz4 : (Tryz.prog.info? 4).map (·.size) = some 1 := by kernel_rfl
theorem sz47 : (Tryz.prog.info? 47).map (·.size) = some 1 := by kernel_rfl
theorem sz5 : (Tryz.prog.info? 5).map (·.size) = some 1 := by kernel_rfl
theorem sz57 : (Tryz.prog.info? 57).map (·.size) = some 1 := by kernel_rfl
theorem sz59 : (Tryz.prog.info? 59).map (·.size) = some 5 := by kernel_rfl
theorem sz63 : (Tryz.prog.info? 63).map (·.size) = some 10 := by kernel_rfl
theorem sz64 : (Tryz.prog.info? 64).map (·.size) = some 1 := by kernel_rfl
theorem sz72 : (Tryz.prog.info? 72).map (·.size) = some 3 := by kernel_rfl
theorem sz9 : (Tryz.prog.info? 9).map (·.size) = some 1 := by kernel_rfl
theorem zr118 : (Tryz.prog.info? 118).bind (·.zero) = some (.agg #[]) := by kernel_rfl
theorem zr30 : (Tryz.prog.info? 30).bind (·.zero) = some (.int .u64 0) := by kernel_rfl
theorem zr31 : (Tryz.prog.info? 31).bind (·.zero) = some (.slice none 0 0) := by kernel_rfl
theorem zr4 : (Tryz.prog.info? 4).bind (·.zero) = some (.bool false) := by kernel_rfl
theorem zr59 : (Tryz.prog.info? 59).bind (·.zero) = some (.agg #[(.int .u64 0), (.float .f64 0), (.bool false), (.float .f64 0), (.float .f64 0)]) := by kernel_rfl
theorem zr63 : (Tryz.prog.info? 63).bind (·.zero) = some (.agg #[(.bool false), (.int .u64 0), (str []), (.int .i64 0), (.int .i64 0), (.int .u64 0), (.float .f64 0), (.bool false), (.float .f64 0), (.float .f64 0)]) := by kernel_rfl
theorem zr72 : (Tryz.prog.info? 72).bind (·.zero) = some (.agg #[(str []), (.slice none 0 0), (.int .i64 0)]) := by kernel_rfl
abbrev pP (g : Nat) : Value := .pointer (some ⟨g, 0, none⟩)
abbrev uu2 := Tryz.underlying2
abbrev uu3 := Tryz.underlying3
abbrev uu4 := Tryz.underlying4
abbrev uu5 := Tryz.underlying5
abbrev uu9 := Tryz.underlying9
abbrev uu22 := Tryz.underlying22
abbrev uu24 := Tryz.underlying24
abbrev uu29 := Tryz.underlying29
abbrev uu30 := Tryz.underlying30
abbrev uu31 := Tryz.underlying31
abbrev uu34 := Tryz.underlying34
abbrev uu42 := Tryz.underlying42
abbrev uu47 := Tryz.underlying47
abbrev uu57 := Tryz.underlying57
abbrev uu59 := Tryz.underlying59
abbrev uu63 := Tryz.underlying63
abbrev uu64 := Tryz.underlying64
abbrev uu72 := Tryz.underlying72
abbrev uu99 := Tryz.underlying99
abbrev uu114 := Tryz.underlying114
abbrev uu118 := Tryz.underlying118
abbrev uu138 := Tryz.underlying138
def g56 (x : S56) : Prop := (gI .i64) x.f0 ∧ (gI .i64) x.f1
set_option maxRecDepth 100000 in
theorem op56 {W : World} : Opens Tryz.prog W 56 k56 g56 := by
  intro H enc held fuel cs x h hw
  obtain ⟨ys, n, _, rfl, hl, hyl, hf⟩ := DataW.trod_struct Tryz.underlying56 h
  rw [ce56] at hl
  match cs, hl with
  | [c0, c1], _ =>
    obtain ⟨a0, h0, q0⟩ := fld Tryz.underlying56 hf hyl hw 0 rfl (o := 0) (c := 1) (t := 2) rfl rfl ce2 (opI Tryz.underlying2)
    cases (show [c0] = [.int .i64 a0] from h0)
    obtain ⟨a1, h1, q1⟩ := fld Tryz.underlying56 hf hyl hw 1 rfl (o := 1) (c := 1) (t := 2) rfl rfl ce2 (opI Tryz.underlying2)
    cases (show [c1] = [.int .i64 a1] from h1)
    exact ⟨⟨a0, a1⟩, rfl, q0, q1⟩
def g59 (x : S59) : Prop := (gI .u64) x.f0 ∧ gF x.f1 ∧ gB x.f2 ∧ gF x.f3 ∧ gF x.f4
set_option maxRecDepth 100000 in
theorem op59 {W : World} : Opens Tryz.prog W 59 k59 g59 := by
  intro H enc held fuel cs x h hw
  obtain ⟨ys, n, _, rfl, hl, hyl, hf⟩ := DataW.trod_struct Tryz.underlying59 h
  rw [ce59] at hl
  match cs, hl with
  | [c0, c1, c2, c3, c4], _ =>
    obtain ⟨a0, h0, q0⟩ := fld Tryz.underlying59 hf hyl hw 0 rfl (o := 0) (c := 1) (t := 30) rfl rfl ce30 (opI Tryz.underlying30)
    cases (show [c0] = [.int .u64 a0] from h0)
    obtain ⟨a1, h1, q1⟩ := fld Tryz.underlying59 hf hyl hw 1 rfl (o := 1) (c := 1) (t := 57) rfl rfl ce57 (opF Tryz.underlying57)
    cases (show [c1] = [.float .f64 a1] from h1)
    obtain ⟨a2, h2, q2⟩ := fld Tryz.underlying59 hf hyl hw 2 rfl (o := 2) (c := 1) (t := 4) rfl rfl ce4 (opB Tryz.underlying4)
    cases (show [c2] = [.bool a2] from h2)
    obtain ⟨a3, h3, q3⟩ := fld Tryz.underlying59 hf hyl hw 3 rfl (o := 3) (c := 1) (t := 57) rfl rfl ce57 (opF Tryz.underlying57)
    cases (show [c3] = [.float .f64 a3] from h3)
    obtain ⟨a4, h4, q4⟩ := fld Tryz.underlying59 hf hyl hw 4 rfl (o := 4) (c := 1) (t := 57) rfl rfl ce57 (opF Tryz.underlying57)
    cases (show [c4] = [.float .f64 a4] from h4)
    exact ⟨⟨a0, a1, a2, a3, a4⟩, rfl, q0, q1, q2, q3, q4⟩
def g61 (x : S61) : Prop := gS x.f0 ∧ g56 x.f1 ∧ g59 x.f2
set_option maxRecDepth 100000 in
theorem op61 {W : World} : Opens Tryz.prog W 61 k61 g61 := by
  intro H enc held fuel cs x h hw
  obtain ⟨ys, n, _, rfl, hl, hyl, hf⟩ := DataW.trod_struct Tryz.underlying61 h
  rw [ce61] at hl
  match cs, hl with
  | [c0, c1, c2, c3, c4, c5, c6, c7], _ =>
    obtain ⟨a0, h0, q0⟩ := fld Tryz.underlying61 hf hyl hw 0 rfl (o := 0) (c := 1) (t := 9) rfl rfl ce9 (opS Tryz.underlying9)
    cases (show [c0] = [str a0] from h0)
    obtain ⟨a1, h1, q1⟩ := fld Tryz.underlying61 hf hyl hw 1 rfl (o := 1) (c := 2) (t := 56) rfl rfl ce56 op56
    cases (show [c1, c2] = [.int .i64 a1.f0, .int .i64 a1.f1] from h1)
    obtain ⟨a2, h2, q2⟩ := fld Tryz.underlying61 hf hyl hw 2 rfl (o := 3) (c := 5) (t := 59) rfl rfl ce59 op59
    cases (show [c3, c4, c5, c6, c7] = [.int .u64 a2.f0, .float .f64 a2.f1, .bool a2.f2, .float .f64 a2.f3, .float .f64 a2.f4] from h2)
    exact ⟨⟨a0, a1, a2⟩, rfl, q0, q1, q2⟩
def g63 (x : S63) : Prop := gB x.f0 ∧ (gI .u64) x.f1 ∧ g61 x.f2
set_option maxRecDepth 100000 in
theorem op63 {W : World} : Opens Tryz.prog W 63 k63 g63 := by
  intro H enc held fuel cs x h hw
  obtain ⟨ys, n, _, rfl, hl, hyl, hf⟩ := DataW.trod_struct Tryz.underlying63 h
  rw [ce63] at hl
  match cs, hl with
  | [c0, c1, c2, c3, c4, c5, c6, c7, c8, c9], _ =>
    obtain ⟨a0, h0, q0⟩ := fld Tryz.underlying63 hf hyl hw 0 rfl (o := 0) (c := 1) (t := 4) rfl rfl ce4 (opB Tryz.underlying4)
    cases (show [c0] = [.bool a0] from h0)
    obtain ⟨a1, h1, q1⟩ := fld Tryz.underlying63 hf hyl hw 1 rfl (o := 1) (c := 1) (t := 30) rfl rfl ce30 (opI Tryz.underlying30)
    cases (show [c1] = [.int .u64 a1] from h1)
    obtain ⟨a2, h2, q2⟩ := fld Tryz.underlying63 hf hyl hw 2 rfl (o := 2) (c := 8) (t := 61) rfl rfl ce61 op61
    cases (show [c2, c3, c4, c5, c6, c7, c8, c9] = [str a2.f0, .int .i64 a2.f1.f0, .int .i64 a2.f1.f1, .int .u64 a2.f2.f0, .float .f64 a2.f2.f1, .bool a2.f2.f2, .float .f64 a2.f2.f3, .float .f64 a2.f2.f4] from h2)
    exact ⟨⟨a0, a1, a2⟩, rfl, q0, q1, q2⟩
def g36 (x : S36) : Prop := (gI .u8) x.f0 ∧ (gL 1 (gI .u8)) x.f1 ∧ (gL 88 g63) x.f2 ∧ (gI .u8) x.f3 ∧ (gL 8 (gI .i64)) x.f4
set_option maxRecDepth 100000 in
theorem op36 {W : World} : Opens Tryz.prog W 36 (kz36 (HeapZ W) W) g36 := by
  intro H enc held fuel cs x h hw
  obtain ⟨ys, n, _, rfl, hl, hyl, hf⟩ := DataW.trod_struct Tryz.underlying36 h
  rw [ce36] at hl
  match cs, hl with
  | [c0, c1, c2, c3, c4], _ =>
    obtain ⟨a0, h0, q0⟩ := fld Tryz.underlying36 hf hyl hw 0 rfl (o := 0) (c := 1) (t := 5) rfl rfl ce5 (opI Tryz.underlying5)
    cases (show [c0] = [.int .u8 a0] from h0)
    obtain ⟨a1, h1, q1⟩ := fld Tryz.underlying36 hf hyl hw 1 rfl (o := 1) (c := 1) (t := 29) rfl rfl ce29 (opSl Tryz.underlying29 ce5 (Nat.succ_pos _) by5 (opI Tryz.underlying5))
    obtain ⟨A1, n1, m1, e1, i1⟩ := h1
    cases (show [c1] = [.slice A1 n1 m1] from e1)
    obtain ⟨a2, h2, q2⟩ := fld Tryz.underlying36 hf hyl hw 2 rfl (o := 2) (c := 1) (t := 31) rfl rfl ce31 (opSl Tryz.underlying31 ce63 (Nat.succ_pos _) by63 op63)
    obtain ⟨A2, n2, m2, e2, i2⟩ := h2
    cases (show [c2] = [.slice A2 n2 m2] from e2)
    obtain ⟨a3, h3, q3⟩ := fld Tryz.underlying36 hf hyl hw 3 rfl (o := 3) (c := 1) (t := 5) rfl rfl ce5 (opI Tryz.underlying5)
    cases (show [c3] = [.int .u8 a3] from h3)
    obtain ⟨a4, h4, q4⟩ := fld Tryz.underlying36 hf hyl hw 4 rfl (o := 4) (c := 1) (t := 34) rfl rfl ce34 (opSl Tryz.underlying34 ce3 (Nat.succ_pos _) by3 (opI Tryz.underlying3))
    obtain ⟨A4, n4, m4, e4, i4⟩ := h4
    cases (show [c4] = [.slice A4 n4 m4] from e4)
    exact ⟨⟨a0, a1, a2, a3, a4⟩, ⟨_, _, _, _, _, _, _, _, _, rfl, i1, i2, i4⟩, q0, q1, q2, q3, q4⟩
noncomputable section
set_option linter.unusedSimpArgs false
def page_Sum_b1 (x476 : Int) : Option (Int) :=
  some (ixor .u32 (IntKind.u32.max) x476)
def page_Sum_x1_0 (x560 : Int) : Option (Int) :=
  page_Sum_b1 x560
def page_Sum_l1 (a0 : (List Int)) (x518 : Int) (x519 : Int) : Option ((Int × Int) ⊕ ((Int))) :=
  if (decide (x519 < (a0.length : Int))) = true then ((at_ a0 x519).bind fun x568 => (ltt (IntKind.u32.wrap x568) fun x572 => (ltt (ixor .u32 x518 x572) fun x574 => (ltt (iand .u32 x574 15) fun x576 => ((at_ gl_page_table x576).bind fun x578 => (ltt (ishr .u32 x518 4) fun x581 => (ltt (ixor .u32 x578 x581) fun x583 => (ltt (ishr .u32 x572 4) fun x585 => (ltt (ixor .u32 x583 x585) fun x587 => (ltt (iand .u32 x587 15) fun x589 => ((at_ gl_page_table x589).bind fun x591 => (ltt (ishr .u32 x583 4) fun x594 => (ltt (ixor .u32 x591 x594) fun x596 => (ltt (IntKind.i64.wrap (x519 + 1)) fun x598 => (some (.inl (x596, x598))))))))))))))))) else (some (.inr (x518)))
def page_Sum (a0 : (List Int)) : Option (Int) :=
  (loop (fun s => page_Sum_l1 a0 s.1 s.2) (4294967295, 0)).bind fun t => page_Sum_x1_0 t
def page_number (a0 : (List Int)) : Option (Int) :=
  (at_ a0 0).bind fun x103 => (ltt (IntKind.u32.wrap x103) fun x106 => ((at_ a0 1).bind fun x108 => (ltt (IntKind.u32.wrap x108) fun x111 => (ltt (ishl .u32 x111 8) fun x113 => (ltt (ior .u32 x106 x113) fun x115 => ((at_ a0 2).bind fun x117 => (ltt (IntKind.u32.wrap x117) fun x120 => (ltt (ishl .u32 x120 16) fun x122 => (ltt (ior .u32 x115 x122) fun x124 => ((at_ a0 3).bind fun x126 => (ltt (IntKind.u32.wrap x126) fun x129 => (ltt (ishl .u32 x129 24) fun x131 => (ltt (ior .u32 x124 x131) fun x133 => (some x133))))))))))))))
def slices_Clone_byte_byte (a0 : (List Int)) : Option ((List Int)) :=
  nilsplit (a0).isEmpty (some []) (chk (([] : List Int).length + a0.length ≤ 140737488355328 / 1) (some a0))
def page_Read_j2 (a1 : Int) (l109 : (List Int)) (y121 : (Int)) (b130 : Bool) : Option (Int × (List Int) × Int × Int) :=
  if b130 = true then (some (0, [], 0, 3)) else (ltt (IntKind.i64.wrap y121) fun x134 => (ltt (IntKind.i64.wrap (5 + x134)) fun x136 => ((cut_ l109 0 x136).bind fun l140 => ((cut_ l109 x136 (l109.length : Int)).bind fun l147 => ((page_Sum l140).bind fun y154 => ((page_number l147).bind fun y156 => (if (y154 != y156) = true then (some (0, [], 0, 4)) else ((at_ l109 4).bind fun x161 => ((cut_ l109 5 x136).bind fun l164 => (ltt (IntKind.i64.wrap (a1 + x136)) fun x171 => (ltt (IntKind.i64.wrap (x171 + 4)) fun x173 => ((slices_Clone_byte_byte l164).bind fun y175 => (some (x161, y175, x173, 0))))))))))))))
def page_Read_j1 (a0 : (List Int)) (a1 : Int) (b105 : Bool) : Option (Int × (List Int) × Int × Int) :=
  if b105 = true then (some (0, [], 0, 1)) else ((cut_ a0 a1 (a0.length : Int)).bind fun l109 => (if (decide ((l109.length : Int) < 9)) = true then (some (0, [], 0, 3)) else ((page_number l109).bind fun y121 => (if (decide (1048576 < y121)) = true then (page_Read_j2 a1 l109 y121 true) else (ltt (IntKind.i64.wrap y121) fun x182 => (ltt (IntKind.i64.wrap ((l109.length : Int) - 9)) fun x184 => (page_Read_j2 a1 l109 y121 (decide (x184 < x182)))))))))
def page_Read (a0 : (List Int)) (a1 : Int) : Option (Int × (List Int) × Int × Int) :=
  if (decide (a1 < 0)) = true then (page_Read_j1 a0 a1 true) else (page_Read_j1 a0 a1 (decide ((a0.length : Int) < a1)))
end
end Go.Proofs.YtffdckhgkhhbjaaGreatDoor.M
