/- The engine's words for panics, closures, named numbers. -/
import Derived.Test.YtgjhiojkkjaloaaEg
import Derived.Recover
import Derived.Lib.AppendStr
import Derived.Lib.ConvBytes
import Derived.Laws.BytesString
namespace Go.Proofs.Ytgjhiojkkjaloaa.E
open Go Go.RowKit
set_option linter.unusedVariables false
set_option linter.unusedSimpArgs false

/-! numbers with a name; one of two -/
def ltt {α β : Type} (x : α) (f : α → Option β) : Option β := f x
def sum_ {α β γ : Type} (x : α ⊕ β) (f : α → Option γ) (g : β → Option γ) : Option γ := match x with
  | .inl a => f a
  | .inr b => g b
theorem ltt_ {α β : Type} {e : α} {f : α → Option β} {y : β} (h : ltt e f = some y) : ∃ x, x = e ∧ f x = some y := ⟨e, rfl, h⟩
theorem sum_l {α β γ : Type} {a : α} {f : α → Option γ} {g : β → Option γ} {y : γ} (h : sum_ (.inl a) f g = some y) : f a = some y := h
theorem sum_r {α β γ : Type} {b : β} {f : α → Option γ} {g : β → Option γ} {y : γ} (h : sum_ (.inr b) f g = some y) : g b = some y := h

section
variable {P : Program} {ops : Array Oper} {Q : Exit → Act → World → Prop} {rest : List Oper} {o : Oper} {a : Act} {w w' : World} {K : Act → World → Prop}
  {n : Nat} {D : List Deferred} {F : List (Nat × Value)} {r : World} {L : List HP} {α : Type} {d : Kd α} {x y c : Operand} {t' e T xt yt : TypeId} {v : Value} {t : Nat} {k : IntKind} {i j : Int} {s u : List UInt8}

theorem rv_i {e : Int} {x : Int} (h : x = e) (hr : RunV P o a w (.int k e)) : RunV P o a w (.int k x) := h ▸ hr

/-! calls that may give up -/
def RetS {ρ π : Type} (P : Program) (f : FuncId) (args : Array Value) (w : World) (ch : List PanicEntry) (y : ρ ⊕ π) (R : ρ → Value → World → Prop) (Rp : π → World → Prop) : Prop := match y with
  | .inl a => Ret P f args w (R a)
  | .inr b => Calls P f args w fun e w' => e = .panicked ch ∧ Rp b w'
theorem RetS.lf {ρ π : Type} {f : FuncId} {args : Array Value} {ch : List PanicEntry} {a : ρ} {R : ρ → Value → World → Prop} {Rp : π → World → Prop} (h : RetS P f args w ch (.inl a) R Rp) : Ret P f args w (R a) := h
theorem RetS.rf {ρ π : Type} {f : FuncId} {args : Array Value} {ch : List PanicEntry} {b : π} {R : ρ → Value → World → Prop} {Rp : π → World → Prop} (h : RetS P f args w ch (.inr b) R Rp) : Calls P f args w fun e w' => e = .panicked ch ∧ Rp b w' := h

theorem enterS {ρ π : Type} {f : FuncId} {fn : Func} {cd : Code} {args : Array Value} {ch : List PanicEntry} {y : ρ ⊕ π} {R : ρ → Value → World → Prop} {Rp : π → World → Prop} {n : Nat} (hf : P.funcs[f]? = some fn) (hb : fn.body = some cd) (hn : fn.ntmps = n)
    (F : List (Nat × Value)) (hF : F.map (fun p => args[p.1]?) = F.map fun p => some p.2) (hle : (args.size ≤ n) = True)
    (h : ∀ a, FR n [] a F → ∀ Qf : Exit → Act → World → Prop, (∀ a0, y = .inl a0 → ∀ a w, bodyPost P fn (fun e w' => ∃ v, e = .returned v ∧ R a0 v w') .ret a w → Qf .ret a w) →
      (∀ a0, y = .inl a0 → ∀ a w, bodyPost P fn (fun e w' => ∃ v, e = .returned v ∧ R a0 v w') .normal a w → Qf .normal a w) →
      (∀ b, y = .inr b → ∀ (a : Act) w, a.defers = [] → Rp b w → Qf (.panic ch) a w) → cd.wp P Qf a w) : RetS P f args w ch y R Rp := by
  cases y with
  | inl a0 => exact enter hf hb hn F hF hle fun a hA Qf h1 h2 => h a hA Qf (fun a1 e a w q => by cases e; exact h1 a w q) (fun a1 e a w q => by cases e; exact h2 a w q) (fun b e => by cases e)
  | inr b =>
    refine calls_of_wp (R := fun e w' => e = .panicked ch ∧ Rp b w') hf hb (h _ ⟨?_, rfl, ?_⟩ _ (fun a0 e => by cases e) (fun a0 e => by cases e) fun b' e a w hd hR => ?_)
    · have := of_eq_true hle
      simp [hn]; omega
    · intro t v hv
      clear h
      induction F with
      | nil => cases hv
      | cons p q ih =>
        obtain ⟨k, u⟩ := p
        simp only [List.map_cons, List.cons.injEq] at hF
        simp only [lk] at hv
        by_cases e : Nat.beq k t = true
        · rw [e] at hv
          have e' := Nat.eq_of_beq_eq_true e
          subst e'
          cases hv
          have hlt := (Array.getElem?_eq_some_iff.1 hF.1).1
          show (args ++ _)[k]? = _
          rw [Array.getElem?_append_left hlt]
          exact hF.1
        · rw [Bool.eq_false_iff.2 e] at hv
          exact ih hF.2 hv
    · cases e
      exact ⟨hd, rfl, hR⟩

theorem e_callp {f : FuncId} {fx : Operand} {as : Array Operand} {ts : Array TypeId} {fs vs caps vals : Array Value} {ch : List PanicEntry} {Rp : World → Prop} (hf : EN P f) (ho : o.op = .call { callee := .value fx, args := as, argTypes := ts }) (hfx : a.eval fx = .func (.func f) fs caps) (hargs : as.map a.eval = vs) (hv : fs ++ vs ++ caps = vals)
    (hC : Calls P f vals w fun e w' => e = .panicked ch ∧ Rp w') (hK : ∀ w', Rp w' → Q (.panic ch) a w') : o.wp P a w K Q := by
  have h : (execOp a.eval o).run P w = .ok (.enter f vals) w := by
    unfold execOp; rw [ho]
    simp only [resolve, hfx, Deferred.ofValue, Sem.run_bind, Sem.run_pure, Result.andThen_ok, invoke]
    subst hv
    have := hf (fs ++ vs ++ caps) w
    simpa [hargs] using this
  unfold Oper.wp
  rw [h]
  exact Calls.mono hC fun e w' ⟨he, hR⟩ => by subst he; exact hK w' hR
theorem e_callw {f : FuncId} {fx : Operand} {as : Array Operand} {ts : Array TypeId} {fs vs caps vals : Array Value} {R : Value → World → Prop} (hf : EN P f) (ho : o.op = .call { callee := .value fx, args := as, argTypes := ts }) (hfx : a.eval fx = .func (.func f) fs caps) (hargs : as.map a.eval = vs) (hv : fs ++ vs ++ caps = vals)
    (hC : Ret P f vals w R) (hK : ∀ v w', R v w' → K (a.put o.dst v) w') : o.wp P a w K Q := by
  have h : (execOp a.eval o).run P w = .ok (.enter f vals) w := by
    unfold execOp; rw [ho]
    simp only [resolve, hfx, Deferred.ofValue, Sem.run_bind, Sem.run_pure, Result.andThen_ok, invoke]
    subst hv
    have := hf (fs ++ vs ++ caps) w
    simpa [hargs] using this
  unfold Oper.wp
  rw [h]
  exact Calls.mono hC fun e w' ⟨v, he, hR⟩ => by subst he; exact hK v w' hR
theorem ev_fn {f : FuncId} (hA : FR n D a F) : a.eval (.func f) = .func (.func f) #[] #[] := rfl

theorem x_callp {f : FuncId} {fx : Operand} {as : Array Operand} {ts : Array TypeId} {fs vs caps vals : Array Value} {ch : List PanicEntry} {Rp : World → Prop} (hf : EN P f) (hA : FR n D a F) (hC : Calls P f vals w fun e w' => e = .panicked ch ∧ Rp w') (kk : ∀ w', Rp w' → Q (.panic ch) a w')
    (ho : o.op = .call { callee := .value fx, args := as, argTypes := ts } := by rfl) (hfx : ev F fx = some (.func (.func f) fs caps) := by rfl) (hargs : as.toList.map (ev F) = vs.toList.map some := by rfl) (hv : fs ++ vs ++ caps = vals := by rfl) (hg : o.guard = none := by rfl) : wpList P ops Q (o :: rest) a w :=
  wl_eff hg fun K hK => e_callp hf ho (hA.ev hfx) (evs hA hargs) hv hC kk
theorem z_callp {f : FuncId} {fx : Operand} {as : Array Operand} {ts : Array TypeId} {fs vs caps vals : Array Value} {ch : List PanicEntry} {Rp : World → Prop} (hf : EN P f) (hA : FR n D a F) (hC : Calls P f vals w fun e w' => e = .panicked ch ∧ Rp w') (kk : ∀ w', Rp w' → Q (.panic ch) a w')
    (ho : o.op = .call { callee := .value fx, args := as, argTypes := ts } := by rfl) (hfx : ev F fx = some (.func (.func f) fs caps) := by rfl) (hargs : as.toList.map (ev F) = vs.toList.map some := by rfl) (hv : fs ++ vs ++ caps = vals := by rfl) : o.wp P a w K Q := e_callp hf ho (hA.ev hfx) (evs hA hargs) hv hC kk
theorem x_callw {f : FuncId} {fx : Operand} {as : Array Operand} {ts : Array TypeId} {fs vs caps vals : Array Value} {R : Value → World → Prop} (hf : EN P f) (hA : FR n D a F) (hC : Ret P f vals w R) (kk : ∀ v a' w', R v w' → FR n D a' ((t, v) :: F) → wpList P ops Q rest a' w')
    (ho : o.op = .call { callee := .value fx, args := as, argTypes := ts } := by rfl) (hfx : ev F fx = some (.func (.func f) fs caps) := by rfl) (hargs : as.toList.map (ev F) = vs.toList.map some := by rfl) (hv : fs ++ vs ++ caps = vals := by rfl) (hd : o.dst = some t := by rfl) (hg : o.guard = none := by rfl) (ht : Nat.blt t n = true := by rfl) : wpList P ops Q (o :: rest) a w :=
  wl_eff hg fun K hK => e_callw hf ho (hA.ev hfx) (evs hA hargs) hv hC fun v w' hR => hK _ _ (kk v _ w' hR (by rw [hd]; exact hA.put t _ (by have := Nat.le_of_ble_eq_true ht; omega)))
theorem x_callw0 {f : FuncId} {fx : Operand} {as : Array Operand} {ts : Array TypeId} {fs vs caps vals : Array Value} {R : Value → World → Prop} (hf : EN P f) (hA : FR n D a F) (hC : Ret P f vals w R) (kk : ∀ v a' w', R v w' → FR n D a' F → wpList P ops Q rest a' w')
    (ho : o.op = .call { callee := .value fx, args := as, argTypes := ts } := by rfl) (hfx : ev F fx = some (.func (.func f) fs caps) := by rfl) (hargs : as.toList.map (ev F) = vs.toList.map some := by rfl) (hv : fs ++ vs ++ caps = vals := by rfl) (hd : o.dst = none := by rfl) (hg : o.guard = none := by rfl) : wpList P ops Q (o :: rest) a w :=
  wl_eff hg fun K hK => e_callw hf ho (hA.ev hfx) (evs hA hargs) hv hC fun v w' hR => hK _ _ (kk v _ w' hR (by rw [hd]; exact hA))
theorem z_callw {f : FuncId} {fx : Operand} {as : Array Operand} {ts : Array TypeId} {fs vs caps vals : Array Value} {R : Value → World → Prop} (hf : EN P f) (hA : FR n D a F) (hC : Ret P f vals w R) (kk : ∀ v w', R v w' → K (a.put o.dst v) w')
    (ho : o.op = .call { callee := .value fx, args := as, argTypes := ts } := by rfl) (hfx : ev F fx = some (.func (.func f) fs caps) := by rfl) (hargs : as.toList.map (ev F) = vs.toList.map some := by rfl) (hv : fs ++ vs ++ caps = vals := by rfl) : o.wp P a w K Q := e_callw hf ho (hA.ev hfx) (evs hA hargs) hv hC kk

/-! giving up -/
theorem e_panic {ty : TypeId} {v0 : Value} (ho : o.op = .panic x) (hx : a.eval x = .iface ty v0) (hK : Q (.panic [{ v := .iface ty v0, recovered := false }]) a w) : o.wp P a w K Q := by
  have h : (execOp a.eval o).run P w = .halt (.panic (.iface ty v0)) w := by
    unfold execOp; rw [ho]
    simp only [hx]
    rfl
  unfold Oper.wp
  rw [h]
  exact hK
theorem x_panic {ty : TypeId} {v0 : Value} (hA : FR n D a F) (hK : Q (.panic [{ v := .iface ty v0, recovered := false }]) a w) (ho : o.op = .panic x := by rfl) (hx : ev F x = some (.iface ty v0) := by rfl) (hg : o.guard = none := by rfl) : wpList P ops Q (o :: rest) a w :=
  wl_eff hg fun K hK' => e_panic ho (hA.ev hx) hK
theorem r_makeI {ds : TypeDesc} {vx : Value} (hu : P.underlying xt = some ds) (hn : (match ds with | .interface _ => false | _ => true) = true) (ho : o.op = .makeInterface xt x) (hx : a.eval x = vx) : RunV P o a w (.iface xt vx) := by
  unfold RunV execOp; rw [ho]
  simp only [hx, Instr.makeInterface, Sem.run_bind, run_underlying hu]
  cases ds <;> first | rfl | cases hn

/-! deferred calls -/
theorem e_defer {f : FuncId} {fx : Operand} {as : Array Operand} {ts : Array TypeId} {fs vs caps : Array Value} (ho : o.op = .defer { callee := .value fx, args := as, argTypes := ts }) (hfx : a.eval fx = .func (.func f) fs caps) (hargs : as.map a.eval = vs)
    (hK : K ({ a with defers := { target := .fn (.func f) caps, args := fs ++ vs } :: a.defers }.put o.dst undef) w) : o.wp P a w K Q := by
  have h : (execOp a.eval o).run P w = .ok (.defer { target := .fn (.func f) caps, args := fs ++ vs }) w := by
    unfold execOp; rw [ho]
    simp only [resolve, hfx, Deferred.ofValue, Sem.run_bind, Sem.run_pure, Result.andThen_ok, hargs]
  unfold Oper.wp
  rw [h]
  exact hK
theorem FR.defer (h : FR n D a F) (d : Deferred) : FR n (d :: D) { a with defers := d :: a.defers } F := ⟨h.size, by show d :: a.defers = _; rw [h.defers], h.at_⟩
theorem x_defer {f : FuncId} {fx : Operand} {as : Array Operand} {ts : Array TypeId} {fs vs caps : Array Value} (hA : FR n D a F) (kk : ∀ a', FR n ({ target := .fn (.func f) caps, args := fs ++ vs } :: D) a' F → wpList P ops Q rest a' w)
    (ho : o.op = .defer { callee := .value fx, args := as, argTypes := ts } := by rfl) (hfx : ev F fx = some (.func (.func f) fs caps) := by rfl) (hargs : as.toList.map (ev F) = vs.toList.map some := by rfl) (hd : o.dst = none := by rfl) (hg : o.guard = none := by rfl) : wpList P ops Q (o :: rest) a w :=
  wl_eff hg fun K hK => e_defer ho (hA.ev hfx) (evs hA hargs) (hK _ _ (kk _ (by rw [hd]; exact hA.defer _)))
theorem enterD {f : FuncId} {fn : Func} {cd : Code} {args : Array Value} {R : Value → World → Prop} {n : Nat} (hf : P.funcs[f]? = some fn) (hb : fn.body = some cd) (hn : fn.ntmps = n)
    (F : List (Nat × Value)) (hF : F.map (fun p => args[p.1]?) = F.map fun p => some p.2) (hle : (args.size ≤ n) = True)
    (h : ∀ a, FR n [] a F → cd.wp P (bodyPostD P fn (fun e w' => ∃ v, e = .returned v ∧ R v w')) a w) : Ret P f args w R := by
  refine calls_of_wp_defers hf hb (h _ ⟨?_, rfl, ?_⟩)
  · have := of_eq_true hle
    simp [hn]; omega
  · intro t v hv
    clear h
    induction F with
    | nil => cases hv
    | cons p q ih =>
      obtain ⟨k, u⟩ := p
      simp only [List.map_cons, List.cons.injEq] at hF
      simp only [lk] at hv
      by_cases e : Nat.beq k t = true
      · rw [e] at hv
        have e' := Nat.eq_of_beq_eq_true e
        subst e'
        cases hv
        have hlt := (Array.getElem?_eq_some_iff.1 hF.1).1
        show (args ++ _)[k]? = _
        rw [Array.getElem?_append_left hlt]
        exact hF.1
      · rw [Bool.eq_false_iff.2 e] at hv
        exact ih hF.2 hv

/-! a string's bytes behind a row -/
def stb (s : List UInt8) : List Int := s.map fun b => (b.toNat : Int)
theorem strCells_eq (s : List UInt8) : Lib.strCells ⟨s.toArray⟩ = (stb s).map fun n => Value.int .u8 n := by simp [Lib.strCells, stb]
theorem lay_u8 : ∀ l : List Int, Lay (kI .u8) l (l.map fun n => Value.int .u8 n)
  | [] => rfl
  | x :: l => ⟨[.int .u8 x], _, rfl, rfl, lay_u8 l⟩

theorem e_appS (i : Nat) {n1 c : Nat} {A : Option Addr} {xs : List Int} {L' : List HP} {t u : TypeId} (hS : SH r L w) (hL : pk i L = own (kI .u8) e A n1 c xs :: L')
    (ht : P.underlying t = some (.slice e)) (hu : P.underlying u = some .string) (hi : (P.info? e).map (fun i => (i.zero, i.size, i.bytes)) = some (some (.int .u8 0), 1, 1))
    (ho : o.op = .call { callee := .builtin .append, args := #[x, y], argTypes := #[t, u] }) (hx : a.eval x = .slice A n1 c) (hy : a.eval y = str s) (hb : xs.length + s.length ≤ 140737488355328 / 1)
    (hK : ∀ A' n' c' w', SH r (own (kI .u8) e A' n' c' (xs ++ stb s) :: L') w' → K (a.put o.dst (.slice A' n' c')) w') : o.wp P a w K Q := by
  have hS' := hS.pk i
  rw [hL] at hS'
  obtain ⟨S1, S2, h1, h2, hd, ⟨hn1, ⟨inner, hLay, hown⟩, hSo⟩, hsep⟩ := hS'.sep
  subst hn1
  obtain ⟨inf, hi1, hi2, hi3, hi4⟩ := info_parts hi
  have hsz : (⟨s.toArray⟩ : ByteArray).size = s.length := ba_size s
  have hbm : xs.length + s.length ≤ maxLen := by simp only [maxLen]; omega
  obtain ⟨v', w', hrun, hown', hg, _⟩ := Lib.run_append_own_string (P := P) w 0 t u o.type e inf ht hu hi1 hi2 hi3 hi4 _ _ _ hown ⟨s.toArray⟩ (by rw [hsz]; exact hbm) (by rw [hsz]; omega) (Nat.zero_le _)
  rw [hsz] at hown'
  have hat : v'.ownBlock = (Value.slice A xs.length c).ownBlock ∨ ∃ k, v'.ownBlock = some k ∧ w.heap.size ≤ k := by
    rcases hown.2 with ⟨hv, hn⟩ | ⟨g, cap, cur, hv, hg0, hh, hnc, hcm, hs, htk⟩
    · injection hv with hA hn' hc
      subst hA hc
      rw [hn'] at hrun hown
      obtain ⟨v2, w2, hrun2, hown2, hg2, _⟩ := Lib.run_append_own_string (P := P) w w.heap.size t u o.type e inf ht hu hi1 hi2 hi3 hi4 _ _ _ (show w.ownsRow w.heap.size e 1 (.slice none 0 0) 0 [] from World.ownsRow_nil w w.heap.size e 1) ⟨s.toArray⟩ (by rw [hsz]; omega) (by rw [hsz]; omega) (Nat.le_refl _)
      rw [hrun] at hrun2
      cases hrun2
      rcases hb' : v'.ownBlock with _ | k
      · left; simp [Value.ownBlock]
      · exact .inr ⟨k, rfl, (hown2.lt k hb').1⟩
    · injection hv with hA hn' hc
      subst hA hc
      by_cases hroom : xs.length + s.length ≤ c
      · have hsz1 : inf.size = 1 := hi3
        have := Lib.run_append_room_string (P := P) w t u o.type e inf ht hu hi1 hsz1 g xs.length c cur hh ⟨s.toArray⟩ (by rw [hsz]; exact hroom) (by rw [hsz, hs]; show _ ≤ c * 1; omega)
        rw [hrun] at this
        cases this
        exact .inl rfl
      · have := Lib.run_append_grow_string (P := P) w t u o.type e inf _ ht hu hi1 hi2 ⟨g, 0, none⟩ xs.length c inner (by rw [hLay.length, hi3]; rfl) (hown.cells (g := g) rfl) ⟨s.toArray⟩ (by rw [hsz]; omega) (by rw [hsz]; omega) (growslice_fits (by rw [hsz]; omega) (by rw [hsz, hi4]; omega))
        rw [hrun] at this
        cases this
        exact .inr ⟨_, rfl, Nat.le_refl _⟩
  have hv : ∃ A' c', v' = .slice A' (xs.length + s.length) c' := by
    rcases hown'.2 with ⟨rfl, hn⟩ | ⟨g, cap, cur, rfl, _⟩
    · exact ⟨none, 0, by rw [hn]⟩
    · exact ⟨_, _, rfl⟩
  obtain ⟨A', c', rfl⟩ := hv
  have h : (execOp a.eval o).run P w = .ok (.value (.slice A' (xs.length + s.length) c')) w' := by
    unfold execOp; rw [ho]
    simp only [resolve, Sem.run_bind, Sem.run_pure, Result.andThen_ok, invoke]
    have e1 : #[x, y].map a.eval = #[.slice A xs.length c, .string ⟨s.toArray⟩] := by simp [hx, hy, str]
    rw [e1]
    show (do pure (.value (← Builtin.append_ #[t, u] o.type _)) : Sem Next).run P w = _
    rw [Sem.run_bind, hrun]
    rfl
  unfold Oper.wp
  rw [h]
  have hlen : (stb s).length = s.length := by simp [stb]
  refine hK _ _ _ _ (hS'.upd h1 h2 hd hsep hg.os hg.tape hg.output hg.size (fun k hk hk1 => hg.block k hk fun e => hk1 (hSo k e.symm)) (Ls := [own (kI .u8) e A' (xs.length + s.length) c' (xs ++ stb s)]) fun S hS1 hS2 _ =>
    ⟨S, fun _ => False, fun _ h => h, fun _ h => h.elim, fun _ _ h => h, ⟨by simp [hlen], ⟨_, hLay.append (lay_u8 _), by rw [List.length_append, hlen, ← strCells_eq]; exact hown'⟩, fun g hg' => ?_⟩, trivial⟩)
  rw [List.length_append, hlen] at hg'
  rcases hat with h | ⟨k, h, hk⟩
  · rw [h] at hg'; exact hS1 _ (hSo _ hg')
  · have hlt := (hown'.lt g hg').2
    rw [h] at hg'
    cases hg'
    exact hS2 _ hk hlt
theorem x_appS (q : Nat) {n1 c1 : Nat} {A : Option Addr} {xs : List Int} {L' : List HP} {t0 u0 : TypeId} (hi : (P.info? e).map (fun i => (i.zero, i.size, i.bytes)) = some (some (.int .u8 0), 1, 1)) (ht' : P.underlying t0 = some (.slice e)) (hu : P.underlying u0 = some .string) (hA : FR n D a F) (hS : SH r L w)
    (hb : xs.length + s.length ≤ 140737488355328 / 1) (hL : pk q L = own (kI .u8) e A n1 c1 xs :: L')
    (kk : ∀ A' n' c' a' w', SH r (own (kI .u8) e A' n' c' (xs ++ stb s) :: L') w' → FR n D a' ((t, .slice A' n' c') :: F) → wpList P ops Q rest a' w')
    (ho : o.op = .call { callee := .builtin .append, args := #[x, y], argTypes := #[t0, u0] } := by rfl) (hx : ev F x = some (.slice A n1 c1) := by rfl) (hy : ev F y = some (str s) := by rfl)
    (hd : o.dst = some t := by rfl) (hg : o.guard = none := by rfl) (ht : Nat.blt t n = true := by rfl) : wpList P ops Q (o :: rest) a w :=
  wl_eff hg fun K hK => e_appS q hS hL ht' hu hi ho (hA.ev hx) (hA.ev hy) hb fun A' n' c' w' hS' => hK _ _ (kk A' n' c' _ w' hS' (by rw [hd]; exact hA.put t _ (by have := Nat.le_of_ble_eq_true ht; omega)))
theorem z_appS (q : Nat) {n1 c1 : Nat} {A : Option Addr} {xs : List Int} {L' : List HP} {t0 u0 : TypeId} (hi : (P.info? e).map (fun i => (i.zero, i.size, i.bytes)) = some (some (.int .u8 0), 1, 1)) (ht' : P.underlying t0 = some (.slice e)) (hu : P.underlying u0 = some .string) (hA : FR n D a F) (hS : SH r L w)
    (hb : xs.length + s.length ≤ 140737488355328 / 1) (hL : pk q L = own (kI .u8) e A n1 c1 xs :: L')
    (kk : ∀ A' n' c' w', SH r (own (kI .u8) e A' n' c' (xs ++ stb s) :: L') w' → K (a.put o.dst (.slice A' n' c')) w')
    (ho : o.op = .call { callee := .builtin .append, args := #[x, y], argTypes := #[t0, u0] } := by rfl) (hx : ev F x = some (.slice A n1 c1) := by rfl) (hy : ev F y = some (str s) := by rfl) : o.wp P a w K Q :=
  e_appS q hS hL ht' hu hi ho (hA.ev hx) (hA.ev hy) hb kk

/-! strings out of bytes, bytes out of strings -/
def bts (l : List Int) : List UInt8 := l.map fun n => UInt8.ofNat n.toNat
theorem bts_stb (s : List UInt8) : bts (stb s) = s := by
  induction s with
  | nil => rfl
  | cons b s ih => show UInt8.ofNat (b.toNat : Int).toNat :: bts (stb s) = _; rw [ih]; simp
theorem r_b2s {A : Option Addr} {m c : Nat} {xs : List Int} (hs : P.underlying xt = some (.slice e)) (he : P.underlying e = some (.int .u8)) (hd : P.underlying yt = some .string) (hr : Rd (kI .u8) w A xs ∧ xs.length = m ∧ m ≤ c ∧ c ≤ maxLen)
    (ho : o.op = .convert xt yt x) (hx : a.eval x = .slice A m c) : RunV P o a w (str (bts xs)) := by
  unfold RunV execOp; rw [ho]
  simp only [hx, Sem.run_bind, run_convert_bytes_string w xt yt e A m c hs he hd]
  obtain ⟨h1, h2, h3, h4⟩ := hr
  have key : (Conv.bytesToString (.slice A m c)).run P w = .ok (str (bts xs)) w := by
    have hfold : ∀ (l : List Int) (b : ByteArray), l.foldl (fun r n => r.push (UInt8.ofNat n.toNat)) b = ⟨b.data ++ (bts l).toArray⟩ := by
      intro l
      induction l with
      | nil => intro b; simp [bts]
      | cons n l ih => intro b; rw [List.foldl_cons, ih]; simp [bts, ByteArray.push]
    rcases A with _ | ad
    · have : xs = [] := by
        rcases Nat.eq_zero_or_pos xs.length with h | h
        · exact List.eq_nil_of_length_eq_zero h
        · obtain ⟨_, h', _⟩ := h1 h; cases h'
      subst this
      rfl
    · have hl : (loadCells ad m).run P w = .ok (xs.map (Value.int .u8)).toArray w := by
        subst h2
        have hc : ∀ j u, (xs.map (Value.int .u8))[j]? = some u → w.cell? (ad.add j) = some u := by
          intro j u hj
          rw [List.getElem?_map, Option.map_eq_some_iff] at hj
          obtain ⟨n, hn, rfl⟩ := hj
          obtain ⟨ad', hA, hra⟩ := h1 (by have := (List.getElem?_eq_some_iff.1 hn).1; omega)
          cases hA
          obtain ⟨cs, hcs, hg⟩ := hra j n hn
          have := hg 0 (.int .u8 n) (by rw [show cs = [.int .u8 n] from hcs]; rfl)
          simpa [kI] using this
        have := run_loadCells_list (P := P) w ad (xs.map (Value.int .u8)) hc
        simpa using this
      rw [run_bytesToString w ad m c xs hl, hfold]
      simp [str]
  rw [key]
  rfl
theorem x_b2s {A : Option Addr} {m c : Nat} {xs : List Int} (hs : P.underlying xt = some (.slice e)) (he : P.underlying e = some (.int .u8)) (hd' : P.underlying yt = some .string) (hr : Rd (kI .u8) w A xs ∧ xs.length = m ∧ m ≤ c ∧ c ≤ maxLen) (hA : FR n D a F) (kk : ∀ a', FR n D a' ((t, str (bts xs)) :: F) → wpList P ops Q rest a' w)
    (ho : o.op = .convert xt yt x := by rfl) (hx : ev F x = some (.slice A m c) := by rfl) (hd : o.dst = some t := by rfl) (hg : o.guard = none := by rfl) (ht : Nat.blt t n = true := by rfl) : wpList P ops Q (o :: rest) a w := x_val hA (r_b2s hs he hd' hr ho (hA.ev hx)) kk hd hg ht
theorem y_b2s {A : Option Addr} {m c : Nat} {xs : List Int} (hs : P.underlying xt = some (.slice e)) (he : P.underlying e = some (.int .u8)) (hd' : P.underlying yt = some .string) (hr : Rd (kI .u8) w A xs ∧ xs.length = m ∧ m ≤ c ∧ c ≤ maxLen) (hA : FR n D a F)
    (ho : o.op = .convert xt yt x := by rfl) (hx : ev F x = some (.slice A m c) := by rfl) : RunV P o a w (str (bts xs)) := r_b2s hs he hd' hr ho (hA.ev hx)

/-- a row that a string was turned into: it is read alone -/
def ownm (e : TypeId) (A : Option Addr) (n c : Nat) (xs : List Int) : HP where
  P w S := xs.length = n ∧ n ≤ c ∧ c ≤ maxLen ∧ ∃ g, A = some ⟨g, 0, none⟩ ∧ S g ∧ RdA (kI .u8) w ⟨g, 0, none⟩ xs
  fr h hk := by
    obtain ⟨h1, h2, h3, g, h4, h5, h6⟩ := h
    refine ⟨h1, h2, h3, g, h4, h5, fun j x hx => ?_⟩
    obtain ⟨cs, hV, hc⟩ := h6 j x hx
    exact ⟨cs, hV, fun q u hu => by rw [← hc q u hu]; exact World.cell?_of_block (by rw [add_block]; exact hk _ h5)⟩
  mono h hs := by
    obtain ⟨h1, h2, h3, g, h4, h5, h6⟩ := h
    exact ⟨h1, h2, h3, g, h4, hs _ h5, h6⟩
theorem SH.rdm {A : Option Addr} {m c : Nat} {xs : List Int} (h : SH r L w) (i : Nat) (hi : L[i]? = some (ownm e A m c xs)) : Rd (kI .u8) w A xs ∧ xs.length = m ∧ m ≤ c ∧ c ≤ maxLen := by
  obtain ⟨S, h1, h2, h3, g, rfl, h5, h6⟩ := h.get i hi
  exact ⟨fun _ => ⟨_, rfl, h6⟩, h1, h2, h3⟩
theorem RdL.ownm {A : Option Addr} {m c : Nat} {xs : List Int} (i : Nat) (hi : L[i]? = some (E.ownm e A m c xs)) (h : SH r L w) : RdL L (kI .u8) A m c xs := by
  obtain ⟨S, h1, h2, h3, g, hA, h5, h6⟩ := h.get i hi
  refine ⟨h1, by omega, h3, fun w' S' h' _ => ?_⟩
  obtain ⟨S2, q1, q2, q3, g2, hA2, q5, q6⟩ := SH.getL i hi h'
  exact ⟨_, hA2, q6⟩
theorem SH.freezem {Z : Nat → Prop} {wz : World} {A : Option Addr} {m c : Nat} {xs : List Int} (h : SH r (E.ownm e A m c xs :: zone Z wz :: L) w) :
    ∃ Z' wz', SH r (zone Z' wz' :: L) w ∧ Imm Z' wz' (kI .u8) A m c xs ∧ Sub Z wz Z' wz' := by
  obtain ⟨S1, S2, h1, h2, hd, ⟨q1, q2, q3, g, q4, q5, q6⟩, S3, S4, h3, h4, hd', hB, hL⟩ := h.sep
  exact ⟨fun k => S1 k ∨ S3 k, w, ⟨h.os, h.tape, h.output, fun k => S1 k ∨ S3 k, S4, fun k q => q.elim (h1 k) (fun q => h2 k (h3 k q)), fun k q => h2 k (h4 k q), fun k q q4 => q.elim (fun q => hd k q (h4 k q4)) (fun q => hd' k q q4),
    ⟨fun _ q => q, fun _ _ => rfl⟩, hL⟩, ⟨q1, by omega, q3, fun hpos => ⟨_, q4, .inl q5, q6⟩⟩, fun k hk => ⟨.inr (hB.1 k hk), hB.2 k hk⟩⟩
theorem e_s2b (hs : P.underlying yt = some (.slice e)) (he : P.underlying e = some (.int .u8)) (hd : P.underlying xt = some .string) (hS : SH r L w) (ho : o.op = .convert xt yt x) (hx : a.eval x = str s) (hl : s.length ≤ maxLen)
    (hK : ∀ A n c w', SH r (ownm e A n c (stb s) :: L) w' → K (a.put o.dst (.slice A n c)) w') : o.wp P a w K Q := by
  have hsz : (⟨s.toArray⟩ : ByteArray).size = s.length := ba_size s
  have h : (execOp a.eval o).run P w = .ok (.value (.slice (some ⟨w.heap.size, 0, none⟩) s.length (grownCap w s.length 0 e))) (Lib.bytesWorld w e ⟨s.toArray⟩) := by
    unfold execOp; rw [ho]
    simp only [hx, str, Sem.run_bind]
    rw [Lib.run_convert_string_bytes w xt yt e ⟨s.toArray⟩ hd hs he, hsz]
    rfl
  unfold Oper.wp
  rw [h]
  refine hK _ _ _ _ (hS.new (w' := Lib.bytesWorld w e ⟨s.toArray⟩) rfl rfl rfl (by rw [Lib.bytesWorld_size]; omega) (fun k hk => Lib.bytesWorld_at_old w e _ k hk) (Ls := [ownm e (some ⟨w.heap.size, 0, none⟩) s.length (grownCap w s.length 0 e) (stb s)]) fun S hS' =>
    ⟨S, fun _ => False, fun _ h => h, fun _ h => h.elim, fun _ _ h => h, ⟨by simp [stb], grownCap_ge w _ _ e, grownCap_le_maxLen w _ _ e hl, _, rfl, hS' _ (Nat.le_refl _) (by rw [Lib.bytesWorld_size]; omega), fun j x hx => ⟨_, rfl, fun q u hu => ?_⟩⟩, trivial⟩)
  cases q with
  | succ q => simp at hu
  | zero =>
    simp only [List.getElem?_cons_zero, Option.some.injEq] at hu
    subst hu
    unfold stb at hx
    rw [List.getElem?_map, Option.map_eq_some_iff] at hx
    obtain ⟨b, hb, rfl⟩ := hx
    have hj := (List.getElem?_eq_some_iff.1 hb).1
    have := Lib.bytesWorld_cell w e ⟨s.toArray⟩ j (by rw [hsz]; exact hj)
    rw [show j * (kI .u8).sz + 0 = j by show j * 1 + 0 = j; omega, add_mk, Nat.zero_add, this]
    simp [List.getD, hb]
theorem x_s2b (hs : P.underlying yt = some (.slice e)) (he : P.underlying e = some (.int .u8)) (hd' : P.underlying xt = some .string) (hA : FR n D a F) (hS : SH r L w) (hl : s.length ≤ maxLen) (kk : ∀ A m c a' w', SH r (ownm e A m c (stb s) :: L) w' → FR n D a' ((t, .slice A m c) :: F) → wpList P ops Q rest a' w')
    (ho : o.op = .convert xt yt x := by rfl) (hx : ev F x = some (str s) := by rfl) (hd : o.dst = some t := by rfl) (hg : o.guard = none := by rfl) (ht : Nat.blt t n = true := by rfl) : wpList P ops Q (o :: rest) a w :=
  wl_eff hg fun K hK => e_s2b hs he hd' hS ho (hA.ev hx) hl fun A m c w' hS' => hK _ _ (kk A m c _ w' hS' (by rw [hd]; exact hA.put t _ (by have := Nat.le_of_ble_eq_true ht; omega)))
theorem z_s2b (hs : P.underlying yt = some (.slice e)) (he : P.underlying e = some (.int .u8)) (hd' : P.underlying xt = some .string) (hA : FR n D a F) (hS : SH r L w) (hl : s.length ≤ maxLen) (kk : ∀ A m c w', SH r (ownm e A m c (stb s) :: L) w' → K (a.put o.dst (.slice A m c)) w')
    (ho : o.op = .convert xt yt x := by rfl) (hx : ev F x = some (str s) := by rfl) : o.wp P a w K Q := e_s2b hs he hd' hS ho (hA.ev hx) hl kk

/-! values behind interfaces -/
theorem r_neIfNil {ty : TypeId} {v0 : Value} {ms : Array (String × TypeId)} (hu : P.underlying xt = some (.interface ms)) (ho : o.op = .binOp .neq xt x y yt) (hx : a.eval x = .iface ty v0) (hy : a.eval y = .nilIface) : RunV P o a w (.bool true) :=
  r_bin ho hx hy fun w => by
    show (do pure (.bool (!(← Op.equal xt (.iface ty v0) .nilIface))) : Sem Value).run P w = _
    rw [Sem.run_bind, equal_of (b := false) fun d => by simp [Op.equalIn, run_underlying hu]]; rfl
theorem r_neNilIf {ms : Array (String × TypeId)} (hu : P.underlying xt = some (.interface ms)) (ho : o.op = .binOp .neq xt x (.const .nilIface) yt) (hx : a.eval x = .nilIface) : RunV P o a w (.bool false) := by
  unfold RunV execOp; rw [ho]
  simp only [hx, show a.eval (.const .nilIface) = .nilIface from rfl]
  have h1 : (eqGuard .neq xt x (.const .nilIface) .nilIface .nilIface).run P w = .ok () w := by
    unfold eqGuard; cases x <;> simp
  have h2 : (binOp .neq xt .nilIface .nilIface).run P w = .ok (.bool false) w := by
    show (do pure (.bool (!(← Op.equal xt .nilIface .nilIface))) : Sem Value).run P w = _
    rw [Sem.run_bind, equal_of (b := true) fun d => by simp [Op.equalIn, run_underlying hu]]; rfl
  simp only [Sem.run_bind, h1, Result.andThen_ok, h2]
  rfl
theorem r_typeAssert {xty ty : TypeId} {v0 : Value} {ds : TypeDesc} (hu : P.underlying ty = some ds) (hn : (match ds with | .interface _ => false | _ => true) = true) (ho : o.op = .typeAssert x xty ty true) (hx : a.eval x = .iface ty v0) : RunV P o a w (.tuple #[v0, .bool true]) := by
  unfold RunV execOp; rw [ho]
  simp only [hx, Instr.typeAssert, Sem.run_bind, run_underlying hu, Result.andThen_ok]
  cases ds <;> first | (simp; done) | cases hn

theorem Ret.mono_ {f : FuncId} {args : Array Value} {R R' : Value → World → Prop} (h : Ret P f args w R) (hr : ∀ v w', R v w' → R' v w') : Ret P f args w R' :=
  Calls.mono h fun e w' ⟨v, he, hR⟩ => ⟨v, he, hr v w' hR⟩

/-! a fact that stands among the parts -/
theorem SH.unpure {p : Prop} (h : SH r (pure' p :: L) w) : p ∧ SH r L w := by
  obtain ⟨S1, S2, h1, h2, hd, hA, hL⟩ := h.sep
  exact ⟨hA, h.tail⟩
theorem SH.pure_ {p : Prop} (hp : p) (h : SH r L w) : SH r (pure' p :: L) w :=
  ⟨h.os, h.tape, h.output, fun _ => False, _, fun _ h => h.elim, fun _ h => h, fun _ h => h.elim, hp, h.sep⟩
end
end Go.Proofs.Ytgjhiojkkjaloaa.E
