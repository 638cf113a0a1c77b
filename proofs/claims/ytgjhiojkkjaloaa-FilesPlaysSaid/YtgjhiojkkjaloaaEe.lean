/- The engine's words for a walk: a step a line; calls, returns, labels. -/
import Derived.Test.YtgjhiojkkjaloaaEd
namespace Go.Proofs.Ytgjhiojkkjaloaa.E
open Go Go.RowKit
set_option linter.unusedVariables false
set_option linter.unusedSimpArgs false

def at_ {α : Type} (xs : List α) (i : Int) : Option α := if 0 ≤ i then xs[i.toNat]? else none
def cut_ {α : Type} (xs : List α) (l u : Int) : Option (List α) := if 0 ≤ l ∧ l ≤ u ∧ u ≤ (xs.length : Int) then some ((xs.take u.toNat).drop l.toNat) else none
def chk {α : Type} (p : Prop) [Decidable p] (x : Option α) : Option α := if p then x else none

section pures
variable {α β : Type} {x : α} {xs : List α} {i l u : Int} {y : β}
theorem at_some (h : at_ xs i = some x) : 0 ≤ i ∧ i < (xs.length : Int) ∧ xs[i.toNat]? = some x := by
  unfold at_ at h
  split at h
  · have := (List.getElem?_eq_some_iff.1 h).1
    exact ⟨by assumption, by omega, h⟩
  · cases h
theorem cut_some {ys : List α} (h : cut_ xs l u = some ys) : 0 ≤ l ∧ l ≤ u ∧ u ≤ (xs.length : Int) ∧ ys = (xs.take u.toNat).drop l.toNat := by
  unfold cut_ at h
  split at h
  · rename_i hc
    cases h
    exact ⟨hc.1, hc.2.1, hc.2.2, rfl⟩
  · cases h
theorem chk_some {p : Prop} [Decidable p] {o : Option β} (h : chk p o = some y) : p ∧ o = some y := by
  unfold chk at h
  split at h
  · exact ⟨by assumption, h⟩
  · cases h
theorem bnd {o : Option α} {f : α → Option β} (h : o.bind f = some y) : ∃ x, o = some x ∧ f x = some y := Option.bind_eq_some_iff.1 h
theorem ift {b : Bool} {p q : Option β} (hb : b = true) (h : (if b = true then p else q) = some y) : p = some y := by rw [if_pos hb] at h; exact h
theorem iff' {b : Bool} {p q : Option β} (hb : b = false) (h : (if b = true then p else q) = some y) : q = some y := by rw [if_neg (by rw [hb]; decide)] at h; exact h
end pures

section
variable {P : Program} {ops : Array Oper} {Q : Exit → Act → World → Prop} {rest : List Oper} {o : Oper} {a : Act} {w w' : World} {K : Act → World → Prop}
  {n : Nat} {D : List Deferred} {F : List (Nat × Value)} {r : World} {L : List HP} {α : Type} {d : Kd α} {x y c : Operand} {t' e T xt yt : TypeId} {v : Value} {t : Nat} {k : IntKind} {i j : Int} {s u : List UInt8}

/-! entering, leaving -/
theorem enter {f : FuncId} {fn : Func} {cd : Code} {args : Array Value} {R : Value → World → Prop} {n : Nat} (hf : P.funcs[f]? = some fn) (hb : fn.body = some cd) (hn : fn.ntmps = n)
    (F : List (Nat × Value)) (hF : F.map (fun p => args[p.1]?) = F.map fun p => some p.2) (hle : (args.size ≤ n) = True)
    (h : ∀ a, FR n [] a F → ∀ Qf : Exit → Act → World → Prop, (∀ a w, bodyPost P fn (fun e w' => ∃ v, e = .returned v ∧ R v w') .ret a w → Qf .ret a w) → (∀ a w, bodyPost P fn (fun e w' => ∃ v, e = .returned v ∧ R v w') .normal a w → Qf .normal a w) → cd.wp P Qf a w) : Ret P f args w R := by
  refine calls_of_wp hf hb (h _ ⟨?_, rfl, ?_⟩ _ (fun _ _ h => h) fun _ _ h => h)
  · have := of_eq_true hle
    simp [hn]; omega
  · intro t v hv
    clear h
    induction F with
    | nil => cases hv
    | cons p q ih =>
      obtain ⟨k, u⟩ := p
      simp only [List.map_cons, List.cons.injEq] at hF
      simp only [lk] at hv
      by_cases e : Nat.beq k t = true
      · rw [e] at hv
        have e' := Nat.eq_of_beq_eq_true e
        subst e'
        cases hv
        have hlt := (Array.getElem?_eq_some_iff.1 hF.1).1
        show (args ++ _)[k]? = _
        rw [Array.getElem?_append_left hlt]
        exact hF.1
      · rw [Bool.eq_false_iff.2 e] at hv
        exact ih hF.2 hv

theorem lv {fn : Func} {R : Value → World → Prop} {t : Nat} (hr : fn.results = #[.tmp t]) (hA : FR n [] a F) (hv : lk F t = some v) (h : R v w) : bodyPost P fn (fun e w' => ∃ v, e = .returned v ∧ R v w') .ret a w :=
  bodyPost_ret (by rw [results_tmp hr, show a.tmps.getD t undef = v from hA.ev (x := .tmp t) hv]) hA.defers ⟨v, rfl, h⟩
theorem lv0 {fn : Func} {R : Value → World → Prop} (hr : fn.results = #[]) (hA : FR n [] a F) (h : R (.tuple #[]) w) : bodyPost P fn (fun e w' => ∃ v, e = .returned v ∧ R v w') .ret a w :=
  bodyPost_ret (results_none hr _ _ _) hA.defers ⟨_, rfl, h⟩
theorem lv0n {fn : Func} {R : Value → World → Prop} (hr : fn.results = #[]) (hA : FR n [] a F) (h : R (.tuple #[]) w) : bodyPost P fn (fun e w' => ∃ v, e = .returned v ∧ R v w') .normal a w :=
  bodyPost_end (results_none hr _ _ _) hA.defers ⟨_, rfl, h⟩
/-- several results, by slots or by cells: what each one is -/
theorem lvs {fn : Func} {R : Value → World → Prop} (hr : ∀ tmps : Array Value, (∀ t v, lk F t = some v → tmps.getD t undef = v) → (results fn tmps).run P w = .ok v w) (hA : FR n [] a F) (h : R v w) : bodyPost P fn (fun e w' => ∃ v, e = .returned v ∧ R v w') .ret a w :=
  bodyPost_ret (hr _ fun t v hv => hA.ev (x := .tmp t) hv) hA.defers ⟨v, rfl, h⟩

/-! labels -/
def Exit.blk (id : Nat) (Kx : Act → World → Prop) (Q : Exit → Act → World → Prop) : Exit → Act → World → Prop
  | .normal, a, w => Kx a w
  | .exit id', a, w => bif Nat.beq id' id then Kx a w else Q (.exit id') a w
  | e, a, w => Q e a w

theorem wp_block_k {id : Nat} {cd : Code} (h : ∀ Kx : Act → World → Prop, (∀ a w, Q .normal a w → Kx a w) → cd.wp P (Exit.blk id Kx Q) a w) : (Code.block id cd).wp P Q a w := by
  refine wp_block (Code.wp_mono (fun e a w q => ?_) (h (Q .normal) fun _ _ h => h))
  cases e with
  | exit id' =>
    simp only [Exit.blk, Exit.inBlock] at q ⊢
    by_cases h : id' = id
    · subst h
      simpa using q
    · have : Nat.beq id' id = false := by
        cases hb : Nat.beq id' id
        · rfl
        · exact absurd (Nat.eq_of_beq_eq_true hb) h
      rw [this] at q
      rw [if_neg h]
      exact q
  | _ => exact q

theorem c_if {cx cy : Code} {b : Bool} (hA : FR n D a F) (hc : ev F c = some (.bool b)) (h1 : b = true → cx.wp P Q a w) (h2 : b = false → cy.wp P Q a w) : (Code.cond c cx cy).wp P Q a w :=
  wp_cond_split (hA.ev hc) h1 h2

theorem wp_reg {id : Nat} (h : wpList P ops Q ops.toList a w) : (Code.region id ops false).wp P Q a w := wp_region_list h

/-! steps that give a value -/
section one
variable (hA : FR n D a F) (kk : ∀ a', FR n D a' ((t, v) :: F) → wpList P ops Q rest a' w)
theorem x_val (hA : FR n D a F) (h : RunV P o a w v) (kk : ∀ a', FR n D a' ((t, v) :: F) → wpList P ops Q rest a' w) (hd : o.dst = some t := by rfl) (hg : o.guard = none := by rfl) (ht : Nat.blt t n = true := by rfl) : wpList P ops Q (o :: rest) a w :=
  wl hA hd hg (by have := Nat.le_of_ble_eq_true ht; omega) h kk
theorem x_move (hA : FR n D a F) (kk : ∀ a', FR n D a' ((t, v) :: F) → wpList P ops Q rest a' w) (ho : o.op = .move x := by rfl) (hx : ev F x = some v := by rfl) (hd : o.dst = some t := by rfl) (hg : o.guard = none := by rfl) (ht : Nat.blt t n = true := by rfl) : wpList P ops Q (o :: rest) a w :=
  x_val hA (r_move ho (hA.ev hx)) kk hd hg ht
theorem x_assign (hA : FR n D a F) (kk : ∀ a', FR n D a' ((t, v) :: F) → wpList P ops Q rest a' w) (ho : o.op = .assign x := by rfl) (hx : ev F x = some v := by rfl) (hd : o.dst = some t := by rfl) (hg : o.guard = none := by rfl) (ht : Nat.blt t n = true := by rfl) : wpList P ops Q (o :: rest) a w :=
  x_val hA (r_assign ho (hA.ev hx)) kk hd hg ht
theorem x_fa {s i off : Nat} {ad : Addr} (hf : FA P s i off) (hA : FR n D a F) (kk : ∀ a', FR n D a' ((t, .pointer (some (ad.add off))) :: F) → wpList P ops Q rest a' w) (ho : o.op = .fieldAddr s x i := by rfl) (hx : ev F x = some (.pointer (some ad)) := by rfl) (hd : o.dst = some t := by rfl) (hg : o.guard = none := by rfl) (ht : Nat.blt t n = true := by rfl) : wpList P ops Q (o :: rest) a w :=
  x_val hA (r_fieldAddr hf ho (hA.ev hx)) kk hd hg ht
end one

theorem bcase {b : Bool} {p : Prop} (h1 : b = true → p) (h2 : b = false → p) : p := by cases b; exact h2 rfl; exact h1 rfl
theorem x_pickt {cx x y : Operand} {b : Bool} (hb : b = true) (hA : FR n D a F) (kk : ∀ a', FR n D a' ((t, v) :: F) → wpList P ops Q rest a' w) (ho : o.op = .pick cx x y := by rfl) (hc : ev F cx = some (.bool b) := by rfl) (hx : ev F x = some v := by rfl) (hd : o.dst = some t := by rfl) (hg : o.guard = none := by rfl) (ht : Nat.blt t n = true := by rfl) : wpList P ops Q (o :: rest) a w :=
  x_val hA (r_pick_t ho (by rw [hA.ev hc, hb]) (hA.ev hx)) kk hd hg ht
theorem x_pickf {cx x y : Operand} {b : Bool} (hb : b = false) (hA : FR n D a F) (kk : ∀ a', FR n D a' ((t, v) :: F) → wpList P ops Q rest a' w) (ho : o.op = .pick cx x y := by rfl) (hc : ev F cx = some (.bool b) := by rfl) (hx : ev F y = some v := by rfl) (hd : o.dst = some t := by rfl) (hg : o.guard = none := by rfl) (ht : Nat.blt t n = true := by rfl) : wpList P ops Q (o :: rest) a w :=
  x_val hA (r_pick_f ho (by rw [hA.ev hc, hb]) (hA.ev hx)) kk hd hg ht
theorem x_on {j t : Nat} {b b' : Bool} (hb : b' = b) (hA : FR n D a F) (h : wpList P ops Q ({ o with guard := none } :: rest) a w) (hg : o.guard = some (j, b) := by rfl) (hj : (ops[j]?).bind (·.dst) = some t := by rfl) (hv : lk F t = some (.bool b') := by rfl) : wpList P ops Q (o :: rest) a w := by
  subst hb
  exact wl_on hA hg hj hv h
theorem x_off {j t t' : Nat} {b b' : Bool} (hb : b' = !b) (hA : FR n D a F) (kk : ∀ a', FR n D a' ((t', undef) :: F) → wpList P ops Q rest a' w) (hg : o.guard = some (j, b) := by rfl) (hj : (ops[j]?).bind (·.dst) = some t := by rfl) (hv : lk F t = some (.bool b') := by rfl) (hd : o.dst = some t' := by rfl) (ht : Nat.blt t' n = true := by rfl) : wpList P ops Q (o :: rest) a w :=
  wl_off hA hg hj hv (by subst hb; cases b <;> rfl) hd (by have := Nat.le_of_ble_eq_true ht; omega) kk
theorem c_t {cx cy : Code} {b : Bool} (hb : b = true) (hA : FR n D a F) (h1 : cx.wp P Q a w) (hc : ev F c = some (.bool b) := by rfl) : (Code.cond c cx cy).wp P Q a w := wp_cond_true (by rw [hA.ev hc, hb]) h1
theorem c_f {cx cy : Code} {b : Bool} (hb : b = false) (hA : FR n D a F) (h1 : cy.wp P Q a w) (hc : ev F c = some (.bool b) := by rfl) : (Code.cond c cx cy).wp P Q a w := wp_cond_false (by rw [hA.ev hc, hb]) h1
/-! steps that turn memory -/
theorem x_box {cs : List Value} (hA : FR n D a F) (hS : SH r L w) (kk : ∀ g a' w', SH r (blk g T cs :: L) w' → FR n D a' ((t, .pointer (some ⟨g, 0, none⟩)) :: F) → wpList P ops Q rest a' w')
    (ho : o.op = .box T x := by rfl) (hx : ev F x = some v := by rfl) (hcs : v.cells = cs.toArray := by rfl) (hd : o.dst = some t := by rfl) (hg : o.guard = none := by rfl) (ht : Nat.blt t n = true := by rfl) : wpList P ops Q (o :: rest) a w :=
  wl_eff hg fun K hK => e_box hS ho (hA.ev hx) hcs fun g w' hS' => hK _ _ (kk g _ w' hS' (by rw [hd]; exact hA.put t _ (by have := Nat.le_of_ble_eq_true ht; omega)))
theorem x_alloc {cs : List Value} {z : Value} (hz : (P.info? T).bind (·.zero) = some z) (hA : FR n D a F) (hS : SH r L w) (kk : ∀ g a' w', SH r (blk g T cs :: L) w' → FR n D a' ((t, .pointer (some ⟨g, 0, none⟩)) :: F) → wpList P ops Q rest a' w')
    (ho : o.op = .alloc T := by rfl) (hcs : z.cells = cs.toArray := by rfl) (hd : o.dst = some t := by rfl) (hg : o.guard = none := by rfl) (ht : Nat.blt t n = true := by rfl) : wpList P ops Q (o :: rest) a w :=
  wl_eff hg fun K hK => e_alloc hS ho hz hcs fun g w' hS' => hK _ _ (kk g _ w' hS' (by rw [hd]; exact hA.put t _ (by have := Nat.le_of_ble_eq_true ht; omega)))
theorem x_bsl {m : Nat} {parts : Array (Nat × Operand)} {ps : Array (Nat × Value)} {cells : List Value} {xs : List α}
    (hr : ∀ w : World, (Instr.buildSlice t' m ps).run P w = .ok (.slice (some ⟨w.heap.size, 0, none⟩) m m) (w.alloc (.cells cells.toArray e))) (hm : xs.length = m) (hL : Lay d xs cells) (hA : FR n D a F) (hS : SH r L w)
    (kk : ∀ g a' w', SH r (own d e (some ⟨g, 0, none⟩) m m xs :: L) w' → FR n D a' ((t, .slice (some ⟨g, 0, none⟩) m m) :: F) → wpList P ops Q rest a' w')
    (ho : o.op = .buildSlice t' m parts := by rfl) (hx : parts.toList.map (fun p => (p.1, ev F p.2)) = ps.toList.map (fun p => (p.1, some p.2)) := by rfl) (hmx : Nat.ble m 65536 = true := by rfl) (hd : o.dst = some t := by rfl) (hg : o.guard = none := by rfl) (ht : Nat.blt t n = true := by rfl) : wpList P ops Q (o :: rest) a w :=
  wl_eff hg fun K hK => e_buildSlice hS ho (ps := ps) (by
    have key : ∀ (l : List (Nat × Operand)) (q : List (Nat × Value)), l.map (fun p => (p.1, ev F p.2)) = q.map (fun p => (p.1, some p.2)) → l.map (fun p => (p.1, a.eval p.2)) = q := by
      intro l
      induction l with
      | nil => intro q h; cases q with | nil => rfl | cons _ _ => cases h
      | cons p l ih =>
        intro q h
        cases q with
        | nil => cases h
        | cons p' q =>
          simp only [List.map_cons, List.cons.injEq, Prod.mk.injEq] at h ⊢
          exact ⟨Prod.ext h.1.1 (hA.ev h.1.2), ih q h.2⟩
    apply Array.ext'
    rw [Array.toList_map]
    exact key _ _ hx) hr hm (by have := Nat.le_of_ble_eq_true hmx; simp only [maxLen]; omega) hL fun g w' hS' => hK _ _ (kk g _ w' hS' (by rw [hd]; exact hA.put t _ (by have := Nat.le_of_ble_eq_true ht; omega)))
theorem x_mks {l : Operand} {kl : IntKind} {m : Int} {z : Value} {bytes : Nat} (z0 : α) (hi : (P.info? e).map (fun i => (i.zero, i.size, i.bytes)) = some (some z, d.sz, bytes)) (hz : d.V z0 z.cells.toList) (ht' : P.underlying t' = some (.slice e)) (hm : 0 ≤ m ∧ (bytes : Int) * m ≤ 140737488355328) (hA : FR n D a F) (hS : SH r L w)
    (kk : ∀ g a' w', SH r (own d e (some ⟨g, 0, none⟩) m.toNat m.toNat (List.replicate m.toNat z0) :: L) w' → FR n D a' ((t, .slice (some ⟨g, 0, none⟩) m.toNat m.toNat) :: F) → wpList P ops Q rest a' w')
    (hb : Nat.blt 0 bytes = true := by rfl) (ho : o.op = .makeSlice t' l l := by rfl) (hl : ev F l = some (.int kl m) := by rfl) (hd : o.dst = some t := by rfl) (hg : o.guard = none := by rfl) (ht : Nat.blt t n = true := by rfl) : wpList P ops Q (o :: rest) a w :=
  wl_eff hg fun K hK => e_makeSlice hS ht' hi ho (hA.ev hl) hz hm.1 hm.2 (by have := Nat.le_of_ble_eq_true hb; omega) fun g w' hS' => hK _ _ (kk g _ w' hS' (by rw [hd]; exact hA.put t _ (by have := Nat.le_of_ble_eq_true ht; omega)))
theorem x_app (q : Nat) {z : Value} {bytes n1 c1 n2 c2 : Nat} {A A2 : Option Addr} {xs ys : List α} {L' : List HP} (hi : (P.info? e).map (fun i => (i.zero, i.size, i.bytes)) = some (some z, d.sz, bytes)) (ht' : P.underlying t' = some (.slice e)) (hA : FR n D a F) (hS : SH r L w) (hr : Rd d w A2 ys) (hn2 : ys.length = n2)
    (hb : xs.length + ys.length ≤ 140737488355328 / bytes) (hL : pk q L = own d e A n1 c1 xs :: L')
    (kk : ∀ A' n' c' a' w', SH r (own d e A' n' c' (xs ++ ys) :: L') w' → FR n D a' ((t, .slice A' n' c') :: F) → wpList P ops Q rest a' w')
    (hz : z.cells.size = d.sz := by rfl) (hsz : Nat.blt 0 d.sz = true := by rfl) (hbp : Nat.blt 0 bytes = true := by rfl) (ho : o.op = .call { callee := .builtin .append, args := #[x, y], argTypes := #[t', t'] } := by rfl) (hx : ev F x = some (.slice A n1 c1) := by rfl) (hy : ev F y = some (.slice A2 n2 c2) := by rfl)
    (hd : o.dst = some t := by rfl) (hg : o.guard = none := by rfl) (ht : Nat.blt t n = true := by rfl) : wpList P ops Q (o :: rest) a w :=
  have hbp' := Nat.le_of_ble_eq_true hbp
  have hb' : (xs.length + ys.length) * bytes ≤ 140737488355328 := Nat.le_trans (Nat.mul_le_mul_right _ hb) (Nat.div_mul_le_self _ _)
  wl_eff hg fun K hK => e_append q hS hL ht' hi hz (by have := Nat.le_of_ble_eq_true hsz; omega) ho (hA.ev hx) (hA.ev hy) hr hn2 (by
    have h1 : (xs.length + ys.length) * 1 ≤ (xs.length + ys.length) * bytes := Nat.mul_le_mul_left _ (by omega)
    simp only [maxLen]; omega) hb' fun A' n' c' w' hS' => hK _ _ (kk A' n' c' _ w' hS' (by rw [hd]; exact hA.put t _ (by have := Nat.le_of_ble_eq_true ht; omega)))
theorem x_stb (q : Nat) {g off : Nat} {cs vs : List Value} {L' : List HP} (hi : (P.info? t').map (·.size) = some vs.length) (hA : FR n D a F) (hS : SH r L w) (hL : pk q L = blk g T cs :: L')
    (kk : ∀ a' w', SH r (blk g T (splice cs off vs) :: L') w' → FR n D a' F → wpList P ops Q rest a' w')
    (ho : o.op = .store t' x y := by rfl) (hx : ev F x = some (.pointer (some ⟨g, off, none⟩)) := by rfl) (hy : ev F y = some v := by rfl) (hv : v.cells.toList = vs := by rfl) (h1 : vs.all (·.oneCell') = true := by rfl) (hl : Nat.ble (off + vs.length) cs.length = true := by rfl) (hd : o.dst = none := by rfl) (hg : o.guard = none := by rfl) : wpList P ops Q (o :: rest) a w :=
  wl_eff hg fun K hK => e_store_blk q hS hL ho (hA.ev hx) (hA.ev hy) hv (fun v hv => List.all_eq_true.1 h1 v hv) (Nat.le_of_ble_eq_true hl) hi fun w' hS' => hK _ _ (kk _ w' hS' (by rw [hd]; exact hA))
theorem x_sto (q : Nat) {A : Option Addr} {n1 c1 off j : Nat} {xs : List α} {z z' : α} {vs : List Value} {L' : List HP} (hi : (P.info? t').map (·.size) = some vs.length) (hA : FR n D a F) (hS : SH r L w) (hL : pk q L = own d e A n1 c1 xs :: L') (hj : xs[j]? = some z) (hV : ∀ c, d.V z c → d.V z' (splice c off vs))
    (kk : ∀ a' w', SH r (own d e A n1 c1 (xs.set j z') :: L') w' → FR n D a' F → wpList P ops Q rest a' w')
    (ho : o.op = .store t' x y := by rfl) (hx : ev F x = some (.pointer (some (ea A (j * d.sz + off)))) := by rfl) (hy : ev F y = some v := by rfl) (hv : v.cells.toList = vs := by rfl) (h1 : vs.all (·.oneCell') = true := by rfl) (hl : Nat.ble (off + vs.length) d.sz = true := by rfl) (hd : o.dst = none := by rfl) (hg : o.guard = none := by rfl) : wpList P ops Q (o :: rest) a w :=
  wl_eff hg fun K hK => e_store_own q hS hL ho (hA.ev hx) (hA.ev hy) hv (fun v hv => List.all_eq_true.1 h1 v hv) (Nat.le_of_ble_eq_true hl) hi hj hV fun w' hS' => hK _ _ (kk _ w' hS' (by rw [hd]; exact hA))

theorem evs (hA : FR n D a F) {as : Array Operand} {vals : Array Value} (h : as.toList.map (ev F) = vals.toList.map some) : as.map a.eval = vals := by
  have key : ∀ (l : List Operand) (q : List Value), l.map (ev F) = q.map some → l.map a.eval = q := by
    intro l
    induction l with
    | nil => intro q h; cases q with | nil => rfl | cons _ _ => cases h
    | cons p l ih =>
      intro q h
      cases q with
      | nil => cases h
      | cons p' q =>
        simp only [List.map_cons, List.cons.injEq] at h ⊢
        exact ⟨hA.ev h.1, ih q h.2⟩
  apply Array.ext'
  rw [Array.toList_map]
  exact key _ _ h

theorem x_call {f : FuncId} {as : Array Operand} {ts : Array TypeId} {vals : Array Value} {R : Value → World → Prop} (hf : EN P f) (hA : FR n D a F) (hC : Ret P f vals w R) (kk : ∀ v a' w', R v w' → FR n D a' ((t, v) :: F) → wpList P ops Q rest a' w')
    (ho : o.op = .call { callee := .value (.func f), args := as, argTypes := ts } := by rfl) (hargs : as.toList.map (ev F) = vals.toList.map some := by rfl) (hd : o.dst = some t := by rfl) (hg : o.guard = none := by rfl) (ht : Nat.blt t n = true := by rfl) : wpList P ops Q (o :: rest) a w :=
  wl_eff hg fun K hK => e_call hf ho (evs hA hargs) hC fun v w' hR => hK _ _ (kk v _ w' hR (by rw [hd]; exact hA.put t _ (by have := Nat.le_of_ble_eq_true ht; omega)))
theorem x_call0 {f : FuncId} {as : Array Operand} {ts : Array TypeId} {vals : Array Value} {R : Value → World → Prop} (hf : EN P f) (hA : FR n D a F) (hC : Ret P f vals w R) (kk : ∀ v a' w', R v w' → FR n D a' F → wpList P ops Q rest a' w')
    (ho : o.op = .call { callee := .value (.func f), args := as, argTypes := ts } := by rfl) (hargs : as.toList.map (ev F) = vals.toList.map some := by rfl) (hd : o.dst = none := by rfl) (hg : o.guard = none := by rfl) : wpList P ops Q (o :: rest) a w :=
  wl_eff hg fun K hK => e_call hf ho (evs hA hargs) hC fun v w' hR => hK _ _ (kk v _ w' hR (by rw [hd]; exact hA))
theorem x_callv {f : FuncId} {fx : Operand} {as : Array Operand} {ts : Array TypeId} {vals caps vs : Array Value} {R : Value → World → Prop} (hf : EN P f) (hA : FR n D a F) (hC : Ret P f vals w R) (kk : ∀ v a' w', R v w' → FR n D a' ((t, v) :: F) → wpList P ops Q rest a' w')
    (ho : o.op = .call { callee := .value fx, args := as, argTypes := ts } := by rfl) (hfx : ev F fx = some (.func (.func f) #[] caps) := by rfl) (hargs : as.toList.map (ev F) = vs.toList.map some := by rfl) (hv : vs ++ caps = vals := by rfl) (hd : o.dst = some t := by rfl) (hg : o.guard = none := by rfl) (ht : Nat.blt t n = true := by rfl) : wpList P ops Q (o :: rest) a w :=
  wl_eff hg fun K hK => e_callv hf ho (hA.ev hfx) (by rw [evs hA hargs]; exact hv) hC fun v w' hR => hK _ _ (kk v _ w' hR (by rw [hd]; exact hA.put t _ (by have := Nat.le_of_ble_eq_true ht; omega)))

/-! reading -/
theorem SH.cell (hS : SH r L w) (q : Nat) {g : Nat} {cs : List Value} (h : L[q]? = some (blk g T cs)) : ∀ off v, cs[off]? = some v → w.cell? ⟨g, off, none⟩ = some v := by
  intro off v hv
  obtain ⟨S, hb⟩ := hS.get q h
  simp [World.cell?, hb.2, hv]
theorem SH.rd (hS : SH r L w) (q : Nat) {A : Option Addr} {m c : Nat} {xs : List α} (h : L[q]? = some (own d e A m c xs)) : Rd d w A xs ∧ xs.length = m ∧ m ≤ c ∧ c ≤ maxLen := by
  obtain ⟨S, hb⟩ := hS.get q h
  have := own_le hb
  exact ⟨own_rd hb, hb.1, by rw [← hb.1]; exact this.1, this.2⟩
theorem SH.rdl (hS : SH r L w) (q : Nat) {L0 : List HP} {A : Option Addr} {m c : Nat} {xs : List α} (h : RdL L0 d A m c xs) (hL : L.drop q = L0) : Rd d w A xs ∧ xs.length = m ∧ m ≤ c ∧ c ≤ maxLen := ⟨h.rd w _ (hL ▸ hS.sfx q), h.ln, by rw [← h.ln]; exact h.le, h.mx⟩
theorem SH.imm (hS : SH r L w) (q : Nat) {Z : Nat → Prop} {wz : World} {A : Option Addr} {m c : Nat} {xs : List α} (h : Imm Z wz d A m c xs) (hL : L[q]? = some (zone Z wz)) : Rd d w A xs ∧ xs.length = m ∧ m ≤ c ∧ c ≤ maxLen := ⟨(h.rdl q hL).rd w _ hS.sep, h.ln, by rw [← h.ln]; exact h.le, h.mx⟩

/-! what lies in a slice -/
theorem x_len {A : Option Addr} {m c : Nat} {xs : List α} (hu : P.underlying t' = some (.slice e)) (hn : xs.length = m) (hA : FR n D a F) (kk : ∀ a', FR n D a' ((t, .int .i64 (xs.length : Int)) :: F) → wpList P ops Q rest a' w)
    (ho : o.op = .call { callee := .builtin .len, args := #[x], argTypes := #[t'] } := by rfl) (hx : ev F x = some (.slice A m c) := by rfl) (hd : o.dst = some t := by rfl) (hg : o.guard = none := by rfl) (ht : Nat.blt t n = true := by rfl) : wpList P ops Q (o :: rest) a w :=
  x_val hA (by rw [hn]; exact r_len hu ho (hA.ev hx)) kk hd hg ht
theorem x_ia {A : Option Addr} {m c sz : Nat} {xs : List α} {z : α} (hu : P.underlying t' = some (.slice e)) (hi : (P.info? e).map (·.size) = some sz) (hr : Rd d w A xs ∧ xs.length = m ∧ m ≤ c ∧ c ≤ maxLen) (hz : at_ xs i = some z) (hA : FR n D a F)
    (kk : ∀ a', FR n D a' ((t, .pointer (some (ea A (i.toNat * sz)))) :: F) → wpList P ops Q rest a' w)
    (ho : o.op = .indexAddr t' x y := by rfl) (hx : ev F x = some (.slice A m c) := by rfl) (hy : ev F y = some (.int k i) := by rfl) (hd : o.dst = some t := by rfl) (hg : o.guard = none := by rfl) (ht : Nat.blt t n = true := by rfl) : wpList P ops Q (o :: rest) a w :=
  have h := at_some hz
  x_val hA (r_indexAddr hu hi ho (hA.ev hx) (hA.ev hy) (hr.1.isSome_ h.1 h.2.1) h.1 (by have := hr.2.1; omega)) kk hd hg ht
theorem el {A : Option Addr} {m c : Nat} {xs : List α} {z : α} (hr : Rd d w A xs ∧ xs.length = m ∧ m ≤ c ∧ c ≤ maxLen) (hz : at_ xs i = some z) : ∃ cs, d.V z cs ∧ ∀ q u, cs[q]? = some u → w.cell? (ea A (i.toNat * d.sz + q)) = some u := hr.1.elem (at_some hz).2.2
theorem x_ld {dd : TypeDesc} {ad : Addr} (hu : P.underlying t' = some dd) (hc : w.cell? ad = some v) (hA : FR n D a F) (kk : ∀ a', FR n D a' ((t, v) :: F) → wpList P ops Q rest a' w) (hf : flat dd = true := by rfl)
    (ho : o.op = .load t' x := by rfl) (hx : ev F x = some (.pointer (some ad)) := by rfl) (hd : o.dst = some t := by rfl) (hg : o.guard = none := by rfl) (ht : Nat.blt t n = true := by rfl) : wpList P ops Q (o :: rest) a w :=
  x_val hA (r_load hu hf ho (hA.ev hx) hc) kk hd hg ht
theorem x_lda {dd : TypeDesc} {ad : Addr} {cs : List Value} (hu : P.underlying t' = some dd) (hi : (P.info? t').map (·.size) = some cs.length) (hc : ∀ j u, cs[j]? = some u → w.cell? (ad.add j) = some u) (hA : FR n D a F) (kk : ∀ a', FR n D a' ((t, .agg cs.toArray) :: F) → wpList P ops Q rest a' w) (hf : flat dd = false := by rfl)
    (ho : o.op = .load t' x := by rfl) (hx : ev F x = some (.pointer (some ad)) := by rfl) (hd : o.dst = some t := by rfl) (hg : o.guard = none := by rfl) (ht : Nat.blt t n = true := by rfl) : wpList P ops Q (o :: rest) a w :=
  x_val hA (r_loadAgg hu hf hi ho (hA.ev hx) hc) kk hd hg ht
section cuts
variable {A : Option Addr} {m c1 sz : Nat} {l u : Int} {kl kh : IntKind} {lo hi : Operand} {xs ys : List α} {L0 : List HP}
theorem x_cutR (hu : P.underlying t' = some (.slice e)) (hsz : (P.info? e).map (·.size) = some d.sz) (h : RdL L0 d A m c1 xs) (hc : cut_ xs l u = some ys) (hA : FR n D a F) (kk : ∀ A' m' c' a', RdL L0 d A' m' c' ys → FR n D a' ((t, .slice A' m' c') :: F) → wpList P ops Q rest a' w)
    (hr : ∀ (h0 : 0 ≤ l) (h1 : l ≤ u) (h2 : u ≤ (m : Int)) (h3 : m ≤ c1), RunV P o a w (.slice (if c1 = l.toNat then A else A.map (·.add (l.toNat * d.sz))) (u.toNat - l.toNat) (c1 - l.toNat)))
    (hd : o.dst = some t := by rfl) (hg : o.guard = none := by rfl) (ht : Nat.blt t n = true := by rfl) : wpList P ops Q (o :: rest) a w := by
  obtain ⟨h0, h1, h2, rfl⟩ := cut_some hc
  have hle := h.le
  have hm := h.ln
  exact x_val hA (hr h0 h1 (by omega) (by omega)) (fun a' hA' => kk _ _ _ a' (h.cut (by omega) (by omega)) hA') hd hg ht
theorem x_cutI {Z : Nat → Prop} {wz : World} (hu : P.underlying t' = some (.slice e)) (hsz : (P.info? e).map (·.size) = some d.sz) (h : Imm Z wz d A m c1 xs) (hc : cut_ xs l u = some ys) (hA : FR n D a F) (kk : ∀ A' m' c' a', Imm Z wz d A' m' c' ys → FR n D a' ((t, .slice A' m' c') :: F) → wpList P ops Q rest a' w)
    (hr : ∀ (h0 : 0 ≤ l) (h1 : l ≤ u) (h2 : u ≤ (m : Int)) (h3 : m ≤ c1), RunV P o a w (.slice (if c1 = l.toNat then A else A.map (·.add (l.toNat * d.sz))) (u.toNat - l.toNat) (c1 - l.toNat)))
    (hd : o.dst = some t := by rfl) (hg : o.guard = none := by rfl) (ht : Nat.blt t n = true := by rfl) : wpList P ops Q (o :: rest) a w := by
  obtain ⟨h0, h1, h2, rfl⟩ := cut_some hc
  have hle := h.le
  have hm := h.ln
  exact x_val hA (hr h0 h1 (by omega) (by omega)) (fun a' hA' => kk _ _ _ a' (h.cut (by omega) (by omega)) hA') hd hg ht
end cuts
theorem EN_of {fn : Func} {f : FuncId} (hf : P.funcs[f]? = some fn) (hname : (fn.name == "runtime.NumGoroutine") = false) (hb : fn.body.isSome = true) : EN P f := by
  intro args w
  have hb' : fn.body.isNone = false := by cases h : fn.body <;> simp_all
  have hne : ¬ fn.name = "runtime.NumGoroutine" := by simpa using hname
  have hbn : ¬ fn.body = none := by intro h; rw [h] at hb; cases hb
  simp [callFunc, hf, hne, hbn]
end

/-! more of it -/
section
variable {P : Program} {ops : Array Oper} {Q : Exit → Act → World → Prop} {rest : List Oper} {o : Oper} {a : Act} {w w' : World} {K : Act → World → Prop}
  {n : Nat} {D : List Deferred} {F : List (Nat × Value)} {r : World} {L : List HP} {α : Type} {d : Kd α} {x y c : Operand} {t' e T xt yt : TypeId} {v : Value} {t : Nat} {k : IntKind} {i j : Int} {s u : List UInt8}
theorem x_fab {s i off g o' : Nat} (hf : FA P s i off) (hA : FR n D a F) (kk : ∀ a', FR n D a' ((t, .pointer (some ⟨g, o' + off, none⟩)) :: F) → wpList P ops Q rest a' w) (ho : o.op = .fieldAddr s x i := by rfl) (hx : ev F x = some (.pointer (some ⟨g, o', none⟩)) := by rfl) (hd : o.dst = some t := by rfl) (hg : o.guard = none := by rfl) (ht : Nat.blt t n = true := by rfl) : wpList P ops Q (o :: rest) a w :=
  x_val hA (by rw [← add_mk]; exact r_fieldAddr hf ho (hA.ev hx)) kk hd hg ht
theorem x_fae {s i off m : Nat} {A : Option Addr} (hf : FA P s i off) (hA : FR n D a F) (kk : ∀ a', FR n D a' ((t, .pointer (some (ea A (m + off)))) :: F) → wpList P ops Q rest a' w) (ho : o.op = .fieldAddr s x i := by rfl) (hx : ev F x = some (.pointer (some (ea A m))) := by rfl) (hd : o.dst = some t := by rfl) (hg : o.guard = none := by rfl) (ht : Nat.blt t n = true := by rfl) : wpList P ops Q (o :: rest) a w :=
  x_val hA (by rw [← ea_add]; exact r_fieldAddr hf ho (hA.ev hx)) kk hd hg ht
theorem mapev (hA : FR n D a F) {as : Array Operand} {vals : Array Value} (h : as.toList.map (ev F) = vals.toList.map some) : as.map a.eval = vals := evs hA h
theorem mapev2 (hA : FR n D a F) {parts : Array (Nat × Operand)} {ps : Array (Nat × Value)} (hx : parts.toList.map (fun p => (p.1, ev F p.2)) = ps.toList.map (fun p => (p.1, some p.2))) : parts.map (fun (i, x) => (i, a.eval x)) = ps := by
  have key : ∀ (l : List (Nat × Operand)) (q : List (Nat × Value)), l.map (fun p => (p.1, ev F p.2)) = q.map (fun p => (p.1, some p.2)) → l.map (fun p => (p.1, a.eval p.2)) = q := by
    intro l
    induction l with
    | nil => intro q h; cases q with | nil => rfl | cons _ _ => cases h
    | cons p l ih =>
      intro q h
      cases q with
      | nil => cases h
      | cons p' q =>
        simp only [List.map_cons, List.cons.injEq, Prod.mk.injEq] at h ⊢
        exact ⟨Prod.ext h.1.1 (hA.ev h.1.2), ih q h.2⟩
  apply Array.ext'
  rw [Array.toList_map]
  exact key _ _ hx
theorem cut_l {A : Option Addr} {m c1 : Nat} {l : Int} {xs : List α} (hm : xs.length = m) (h : RunV P o a w (.slice A (m - l.toNat) c1)) : RunV P o a w (.slice A ((xs.length : Int).toNat - l.toNat) c1) := by
  subst hm; exact h
theorem cut_h {A : Option Addr} {c1 sz : Nat} {u : Int} (h : RunV P o a w (.slice A u.toNat c1)) : RunV P o a w (.slice (if c1 = (0 : Int).toNat then A else A.map (·.add ((0 : Int).toNat * sz))) (u.toNat - (0 : Int).toNat) (c1 - (0 : Int).toNat)) := by
  have e : (if c1 = (0 : Int).toNat then A else A.map (·.add ((0 : Int).toNat * sz))) = A := by cases A <;> simp [add_zero']
  rw [e]; exact h
theorem SH.dropN {L : List HP} (h : SH r L w) (m : Nat) : SH r (L.drop m) w := ⟨h.os, h.tape, h.output, h.sfx m⟩

/-! a pointer that may be nil -/
def optP {α : Type} (f : Nat → α → HP) (p : Option Addr) (o : Option α) : HP where
  P w S := match o with
    | none => p = none
    | some x => ∃ g, p = some ⟨g, 0, none⟩ ∧ (f g x).P w S
  fr := fun {w w' S} h hk => by
    cases o with
    | none => exact h
    | some x => obtain ⟨g, hp, h⟩ := h; exact ⟨g, hp, (f g x).fr h hk⟩
  mono := fun {w S S'} h hs => by
    cases o with
    | none => exact h
    | some x => obtain ⟨g, hp, h⟩ := h; exact ⟨g, hp, (f g x).mono h hs⟩
theorem SH.optN {α : Type} (f : Nat → α → HP) {L : List HP} (h : SH r L w) : SH r (optP f none none :: L) w :=
  ⟨h.os, h.tape, h.output, fun _ => False, _, fun _ h => h.elim, fun _ h => h, fun _ h => h.elim, rfl, h.sep⟩
theorem SH.optS {α : Type} {f : Nat → α → HP} {g : Nat} {x : α} {L : List HP} (h : SH r (f g x :: L) w) : SH r (optP f (some ⟨g, 0, none⟩) (some x) :: L) w := h.imp fun _ h => ⟨g, rfl, h⟩
theorem SH.unoptN {α : Type} {f : Nat → α → HP} {p : Option Addr} {L : List HP} (h : SH r (optP f p none :: L) w) : p = none ∧ SH r L w := by
  obtain ⟨S, hp⟩ := h.get 0 rfl
  exact ⟨hp, h.tail⟩
theorem SH.unoptS {α : Type} {f : Nat → α → HP} {p : Option Addr} {x : α} {L : List HP} (h : SH r (optP f p (some x) :: L) w) : ∃ g, p = some ⟨g, 0, none⟩ ∧ SH r (f g x :: L) w := by
  obtain ⟨S1, S2, h1, h2, hd', ⟨g, hp, hA⟩, hL⟩ := h.sep
  exact ⟨g, hp, h.os, h.tape, h.output, S1, S2, h1, h2, hd', hA, hL⟩
theorem SH.optNone {α : Type} {f : Nat → α → HP} {p : Option Addr} {o : Option α} {L : List HP} (h : SH r L w) (q : Nat) (hq : L[q]? = some (optP f p o)) : p.isNone = o.isNone := by
  obtain ⟨S, hp⟩ := h.get q hq
  cases o with
  | none => rw [show p = none from hp]; rfl
  | some x => obtain ⟨g, hp, _⟩ := hp; rw [hp]; rfl

theorem lv2 {fn : Func} {R : Value → World → Prop} {t u : Nat} {v1 v2 : Value} (hr : fn.results = #[.tmp t, .tmp u]) (hA : FR n [] a F) (h1 : lk F t = some v1) (h2 : lk F u = some v2) (h : R (.tuple #[v1, v2]) w) : bodyPost P fn (fun e w' => ∃ v, e = .returned v ∧ R v w') .ret a w :=
  bodyPost_ret (by rw [results_tmp2 hr, show a.tmps.getD t undef = v1 from hA.ev (x := .tmp t) h1, show a.tmps.getD u undef = v2 from hA.ev (x := .tmp u) h2]) hA.defers ⟨_, rfl, h⟩
theorem lv3 {fn : Func} {R : Value → World → Prop} {t u q : Nat} {v1 v2 v3 : Value} (hr : fn.results = #[.tmp t, .tmp u, .tmp q]) (hA : FR n [] a F) (h1 : lk F t = some v1) (h2 : lk F u = some v2) (h3 : lk F q = some v3) (h : R (.tuple #[v1, v2, v3]) w) : bodyPost P fn (fun e w' => ∃ v, e = .returned v ∧ R v w') .ret a w :=
  bodyPost_ret (v := .tuple #[v1, v2, v3]) (by
    have e1 : a.tmps.getD t undef = v1 := hA.ev (x := .tmp t) h1
    have e2 : a.tmps.getD u undef = v2 := hA.ev (x := .tmp u) h2
    have e3 : a.tmps.getD q undef = v3 := hA.ev (x := .tmp q) h3
    rw [← e1, ← e2, ← e3]
    simp [results, hr]) hA.defers ⟨_, rfl, h⟩
/-- the first of three stands in cells -/
theorem lvc3 {fn : Func} {R : Value → World → Prop} {t u q g ty : Nat} {cs : List Value} {v2 v3 : Value} {dd : TypeDesc} (hr : fn.results = #[.cell t ty, .tmp u, .tmp q]) (hu : P.underlying ty = some dd) (hi : (P.info? ty).map (·.size) = some cs.length) (hS : SH r L w) (qi : Nat) (hq : L[qi]? = some (blk g T cs))
    (hA : FR n [] a F) (h1 : lk F t = some (.pointer (some ⟨g, 0, none⟩))) (h2 : lk F u = some v2) (h3 : lk F q = some v3) (hf : flat dd = false) (h : R (.tuple #[.agg cs.toArray, v2, v3]) w) : bodyPost P fn (fun e w' => ∃ v, e = .returned v ∧ R v w') .ret a w :=
  bodyPost_ret (v := .tuple #[.agg cs.toArray, v2, v3]) (by
    have e1 : a.tmps.getD t undef = .pointer (some ⟨g, 0, none⟩) := hA.ev (x := .tmp t) h1
    have e2 : a.tmps.getD u undef = v2 := hA.ev (x := .tmp u) h2
    have e3 : a.tmps.getD q undef = v3 := hA.ev (x := .tmp q) h3
    obtain ⟨i, hi1, hi2⟩ := Option.map_eq_some_iff.1 hi
    have hagg : (isAgg ty).run P w = .ok true w := by rw [run_isAgg_flat hu, hf]; rfl
    have hl := run_loadCells_list (P := P) w ⟨g, 0, none⟩ cs (fun j u hj => by rw [add_mk, Nat.zero_add]; exact hS.cell qi hq j u hj)
    have hld : (loadVar ty ⟨g, 0, none⟩).run P w = .ok (.agg cs.toArray) w := by simp [loadVar, hagg, sizeOf, typeInfo, hi1, hi2, hl]
    rw [← e2, ← e3]
    have e1' : a.tmps[t]?.getD undef = .pointer (some ⟨g, 0, none⟩) := by rw [← Array.getD_eq_getD_getElem?]; exact e1
    simp [results, hr, e1', asAddr, hld]) hA.defers ⟨_, rfl, h⟩
/-- a value that stands in cells -/
theorem lvc1 {fn : Func} {R : Value → World → Prop} {t g ty : Nat} {cs : List Value} {dd : TypeDesc} (hr : fn.results = #[.cell t ty]) (hu : P.underlying ty = some dd) (hi : (P.info? ty).map (·.size) = some cs.length) (hS : SH r L w) (qi : Nat) (hq : L[qi]? = some (blk g T cs))
    (hA : FR n [] a F) (h1 : lk F t = some (.pointer (some ⟨g, 0, none⟩))) (hf : flat dd = false) (h : R (.agg cs.toArray) w) : bodyPost P fn (fun e w' => ∃ v, e = .returned v ∧ R v w') .ret a w :=
  bodyPost_ret (v := .agg cs.toArray) (by
    have e1 : a.tmps.getD t undef = .pointer (some ⟨g, 0, none⟩) := hA.ev (x := .tmp t) h1
    obtain ⟨i, hi1, hi2⟩ := Option.map_eq_some_iff.1 hi
    have hagg : (isAgg ty).run P w = .ok true w := by rw [run_isAgg_flat hu, hf]; rfl
    have hl := run_loadCells_list (P := P) w ⟨g, 0, none⟩ cs (fun j u hj => by rw [add_mk, Nat.zero_add]; exact hS.cell qi hq j u hj)
    have hld : (loadVar ty ⟨g, 0, none⟩).run P w = .ok (.agg cs.toArray) w := by simp [loadVar, hagg, sizeOf, typeInfo, hi1, hi2, hl]
    have e1' : a.tmps[t]?.getD undef = .pointer (some ⟨g, 0, none⟩) := by rw [← Array.getD_eq_getD_getElem?]; exact e1
    simp [results, hr, e1', asAddr, hld]) hA.defers ⟨_, rfl, h⟩
end

/-! kinds -/
def kI (k : IntKind) : Kd Int where
  sz := 1
  V x cs := cs = [.int k x]
  len h := by rw [h]; rfl
  one h := by rw [h]; simp [Value.oneCell']
def kB : Kd Bool where
  sz := 1
  V x cs := cs = [.bool x]
  len h := by rw [h]; rfl
  one h := by rw [h]; simp [Value.oneCell']
def kS : Kd (List UInt8) where
  sz := 1
  V x cs := cs = [str x]
  len h := by rw [h]; rfl
  one h := by rw [h]; simp [Value.oneCell', str]
def kF : Kd Nat where
  sz := 1
  V x cs := cs = [.float .f64 x]
  len h := by rw [h]; rfl
  one h := by rw [h]; simp [Value.oneCell']
def kM {α : Type} (Z : Nat → Prop) (wz : World) (d : Kd α) : Kd (List α) where
  sz := 1
  V x cs := ∃ A n c, cs = [.slice A n c] ∧ Imm Z wz d A n c x
  len h := by obtain ⟨A, n, c, h, _⟩ := h; rw [h]; rfl
  one h := by obtain ⟨A, n, c, h, _⟩ := h; rw [h]; simp [Value.oneCell']

theorem kM_sub {α : Type} {Z Z' : Nat → Prop} {wz wz' : World} {d : Kd α} (hs : Sub Z wz Z' wz') (x : List α) (cs : List Value) (h : (kM Z wz d).V x cs) : (kM Z' wz' d).V x cs := by
  obtain ⟨A, n, c, h, hI⟩ := h
  exact ⟨A, n, c, h, hI.sub hs⟩
theorem Lay.one_ {α : Type} {d : Kd α} {x : α} {cs : List Value} (h : d.V x cs) : Lay d [x] cs := ⟨cs, [], by simp, h, rfl⟩
open Classical in
/-- two ways to the same end, by whether a row's address is nil -/
noncomputable def nilsplit {α : Type} (e : Bool) (p q : Option α) : Option α := if e = true then (if p = q then p else none) else q
theorem nil_l {α β : Type} {xs : List β} {p q : Option α} {y : α} (hx : xs = []) (h : nilsplit xs.isEmpty p q = some y) : p = some y := by
  unfold nilsplit at h
  subst hx
  simp only [List.isEmpty_nil, if_true] at h
  split at h
  · exact h
  · cases h
theorem nil_r {α : Type} {e : Bool} {p q : Option α} {y : α} (h : nilsplit e p q = some y) : q = some y := by
  unfold nilsplit at h
  split at h
  · split at h
    · rename_i h2; rw [← h2]; exact h
    · cases h
  · exact h
theorem RdL.none_nil {α : Type} {L : List HP} {d : Kd α} {n c : Nat} {xs : List α} (h : RdL L d none n c xs) {w : World} {S : Nat → Prop} (hs : Sep L w S) : xs = [] := by
  cases xs with
  | nil => rfl
  | cons x xs => obtain ⟨ad, e, _⟩ := h.rd w S hs (by simp); cases e
theorem Imm.none_nil {α : Type} {Z : Nat → Prop} {wz : World} {d : Kd α} {n c : Nat} {xs : List α} (h : Imm Z wz d none n c xs) : xs = [] := by
  cases xs with
  | nil => rfl
  | cons x xs => obtain ⟨ad, e, _⟩ := h.rd (by simp); cases e
theorem SH.own_none {α : Type} {r w : World} {L : List HP} {d : Kd α} {e : TypeId} {n c : Nat} {xs : List α} (h : SH r L w) (i : Nat) (hi : L[i]? = some (own d e none n c xs)) : xs = [] := by
  obtain ⟨S, hS⟩ := h.get i hi
  cases xs with
  | nil => rfl
  | cons x xs => obtain ⟨ad, e, _⟩ := own_rd hS (by simp); cases e
theorem Imm.kind {α : Type} {Z : Nat → Prop} {wz : World} {d d' : Kd α} {A : Option Addr} {n c : Nat} {xs : List α} (h : Imm Z wz d A n c xs) (hs : d.sz = d'.sz) (hd : ∀ x cs, d.V x cs → d'.V x cs) : Imm Z wz d' A n c xs := by
  refine ⟨h.ln, h.le, h.mx, fun hpos => ?_⟩
  obtain ⟨ad, e, hz, hr⟩ := h.rd hpos
  refine ⟨ad, e, hz, fun j x hx => ?_⟩
  obtain ⟨cs, hV, hc⟩ := hr j x hx
  exact ⟨cs, hd _ _ hV, by rw [← hs]; exact hc⟩
theorem RdL.kind {α : Type} {L : List HP} {d d' : Kd α} {A : Option Addr} {n c : Nat} {xs : List α} (h : RdL L d A n c xs) (hs : d.sz = d'.sz) (hd : ∀ x cs, d.V x cs → d'.V x cs) : RdL L d' A n c xs := by
  refine ⟨h.ln, h.le, h.mx, fun w S hS hpos => ?_⟩
  obtain ⟨ad, e, hr⟩ := h.rd w S hS hpos
  refine ⟨ad, e, fun j x hx => ?_⟩
  obtain ⟨cs, hV, hc⟩ := hr j x hx
  exact ⟨cs, hd _ _ hV, by rw [← hs]; exact hc⟩
end Go.Proofs.Ytgjhiojkkjaloaa.E
