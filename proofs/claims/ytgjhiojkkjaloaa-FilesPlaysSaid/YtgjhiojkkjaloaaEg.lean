/- The engine's steps once more, for regions whose order is open: a value alone (y_..), an effect alone (z_..). -/
import Derived.Test.YtgjhiojkkjaloaaEf
namespace Go.Proofs.Ytgjhiojkkjaloaa.E
open Go Go.RowKit
set_option linter.unusedVariables false
set_option linter.unusedSimpArgs false
section
variable {P : Program} {ops : Array Oper} {Q : Exit → Act → World → Prop} {rest : List Oper} {o : Oper} {a : Act} {w w' : World} {K : Act → World → Prop}
  {n : Nat} {D : List Deferred} {F : List (Nat × Value)} {r : World} {L : List HP} {α : Type} {d : Kd α} {x y c : Operand} {t' e T xt yt : TypeId} {v : Value} {t : Nat} {k : IntKind} {i j : Int} {s u : List UInt8}
/-! floats by their bits; the library's functions without a body -/
def feq (x y : Nat) : Bool := FloatKind.f64.format.order x y == some .eq
theorem r_eqF {x y : Operand} {p q : Nat} (ho : o.op = .binOp .eql xt x y yt) (hx : a.eval x = .float .f64 p) (hy : a.eval y = .float .f64 q) : RunV P o a w (.bool (feq p q)) := r_bin ho hx hy fun _ => rfl
theorem r_neF {x y : Operand} {p q : Nat} (ho : o.op = .binOp .neq xt x y yt) (hx : a.eval x = .float .f64 p) (hy : a.eval y = .float .f64 q) : RunV P o a w (.bool (!feq p q)) := r_bin ho hx hy fun _ => rfl
def EXT (P : Program) (f : FuncId) (args : Array Value) (v : Value) : Prop := ∀ w, (callFunc f args).run P w = .ok (.value v) w
theorem r_ext {f : FuncId} {as : Array Operand} {ts : Array TypeId} {vals : Array Value} (hf : EXT P f vals v) (ho : o.op = .call { callee := .value (.func f), args := as, argTypes := ts }) (hargs : as.map a.eval = vals) : RunV P o a w v := by
  unfold RunV execOp; rw [ho]
  simp only [resolve, Act.eval, Deferred.ofValue, Sem.run_bind, Sem.run_pure, Result.andThen_ok, invoke, hargs]
  have := hf w
  simpa using this

/-! a row of the call's own, cut for reading -/
theorem cutq {A : Option Addr} {m c1 : Nat} {l u : Int} {xs ys : List α} (h : Rd d w A xs ∧ xs.length = m ∧ m ≤ c1 ∧ c1 ≤ maxLen) (hc : cut_ xs l u = some ys) : 0 ≤ l ∧ l ≤ u ∧ u ≤ (c1 : Int) ∧ u ≤ (m : Int) ∧ 0 ≤ u ∧ l ≤ (m : Int) := by
  obtain ⟨h0, h1, h2, _⟩ := cut_some hc
  obtain ⟨_, h3, h4, _⟩ := h
  exact ⟨h0, h1, by omega, by omega, by omega, by omega⟩
theorem rq_lh {A : Option Addr} {m c1 : Nat} {l u : Int} {xs ys : List α} (h : Rd d w A xs ∧ xs.length = m ∧ m ≤ c1 ∧ c1 ≤ maxLen) (hc : cut_ xs l u = some ys) :
    Rd d w (if c1 = l.toNat then A else A.map (·.add (l.toNat * d.sz))) ys ∧ ys.length = u.toNat - l.toNat ∧ u.toNat - l.toNat ≤ c1 - l.toNat ∧ c1 - l.toNat ≤ maxLen := by
  obtain ⟨h0, h1, h2, rfl⟩ := cut_some hc
  obtain ⟨hr, h3, h4, h5⟩ := h
  exact ⟨hr.cut (by omega) (by omega) (by omega), by simp; omega, by omega, by omega⟩
theorem rq_h {A : Option Addr} {m c1 : Nat} {u : Int} {xs ys : List α} (h : Rd d w A xs ∧ xs.length = m ∧ m ≤ c1 ∧ c1 ≤ maxLen) (hc : cut_ xs 0 u = some ys) : Rd d w A ys ∧ ys.length = u.toNat ∧ u.toNat ≤ c1 ∧ c1 ≤ maxLen := by
  have q := rq_lh h hc
  have e : (if c1 = (0 : Int).toNat then A else A.map (·.add ((0 : Int).toNat * d.sz))) = A := by cases A <;> simp [add_zero']
  rw [e] at q
  simpa using q
theorem rq_l {A : Option Addr} {m c1 : Nat} {l : Int} {xs ys : List α} (h : Rd d w A xs ∧ xs.length = m ∧ m ≤ c1 ∧ c1 ≤ maxLen) (hc : cut_ xs l (xs.length : Int) = some ys) :
    Rd d w (if c1 = l.toNat then A else A.map (·.add (l.toNat * d.sz))) ys ∧ ys.length = m - l.toNat ∧ m - l.toNat ≤ c1 - l.toNat ∧ c1 - l.toNat ≤ maxLen := by
  have q := rq_lh h hc
  rw [Int.toNat_natCast, h.2.1] at q
  exact q

theorem imm_lh {Z : Nat → Prop} {wz : World} {A : Option Addr} {m c1 : Nat} {l u : Int} {xs ys : List α} (h : Imm Z wz d A m c1 xs) (hc : cut_ xs l u = some ys) : Imm Z wz d (if c1 = l.toNat then A else A.map (·.add (l.toNat * d.sz))) (u.toNat - l.toNat) (c1 - l.toNat) ys := by
  obtain ⟨h0, h1, h2, rfl⟩ := cut_some hc
  exact h.cut (by omega) (by omega)
theorem imm_h {Z : Nat → Prop} {wz : World} {A : Option Addr} {m c1 : Nat} {u : Int} {xs ys : List α} (h : Imm Z wz d A m c1 xs) (hc : cut_ xs 0 u = some ys) : Imm Z wz d A u.toNat c1 ys := by
  have q := imm_lh h hc
  have e : (if c1 = (0 : Int).toNat then A else A.map (·.add ((0 : Int).toNat * d.sz))) = A := by cases A <;> simp [add_zero']
  rw [e] at q
  simpa using q
theorem imm_l {Z : Nat → Prop} {wz : World} {A : Option Addr} {m c1 : Nat} {l : Int} {xs ys : List α} (h : Imm Z wz d A m c1 xs) (hc : cut_ xs l (xs.length : Int) = some ys) : Imm Z wz d (if c1 = l.toNat then A else A.map (·.add (l.toNat * d.sz))) (m - l.toNat) (c1 - l.toNat) ys := by
  have q := imm_lh h hc
  rw [Int.toNat_natCast, h.ln] at q
  exact q
theorem rdl_lh {L0 : List HP} {A : Option Addr} {m c1 : Nat} {l u : Int} {xs ys : List α} (h : RdL L0 d A m c1 xs) (hc : cut_ xs l u = some ys) : RdL L0 d (if c1 = l.toNat then A else A.map (·.add (l.toNat * d.sz))) (u.toNat - l.toNat) (c1 - l.toNat) ys := by
  obtain ⟨h0, h1, h2, rfl⟩ := cut_some hc
  exact h.cut (by omega) (by omega)
theorem rdl_h {L0 : List HP} {A : Option Addr} {m c1 : Nat} {u : Int} {xs ys : List α} (h : RdL L0 d A m c1 xs) (hc : cut_ xs 0 u = some ys) : RdL L0 d A u.toNat c1 ys := by
  have q := rdl_lh h hc
  have e : (if c1 = (0 : Int).toNat then A else A.map (·.add ((0 : Int).toNat * d.sz))) = A := by cases A <;> simp [add_zero']
  rw [e] at q
  simpa using q
theorem rdl_l {L0 : List HP} {A : Option Addr} {m c1 : Nat} {l : Int} {xs ys : List α} (h : RdL L0 d A m c1 xs) (hc : cut_ xs l (xs.length : Int) = some ys) : RdL L0 d (if c1 = l.toNat then A else A.map (·.add (l.toNat * d.sz))) (m - l.toNat) (c1 - l.toNat) ys := by
  have q := rdl_lh h hc
  rw [Int.toNat_natCast, h.ln] at q
  exact q

/-! guards over what was passed over -/
theorem yielded_undef {tmps : Array Value} {j t : Nat} (hj : (ops[j]?).bind (·.dst) = some t) (hv : tmps[t]? = some undef) : yielded ops tmps j = none := by
  unfold yielded
  cases ho : ops[j]? with
  | none => rfl
  | some o' =>
    rw [ho] at hj
    simp only [Option.bind_some] at hj
    simp [hj, hv, undef]
theorem x_offU {j t t' : Nat} {b : Bool} (hA : FR n D a F) (kk : ∀ a', FR n D a' ((t', undef) :: F) → wpList P ops Q rest a' w) (hg : o.guard = some (j, b) := by rfl) (hj : (ops[j]?).bind (·.dst) = some t := by rfl) (hv : lk F t = some undef := by rfl) (hd : o.dst = some t' := by rfl) (ht : Nat.blt t' n = true := by rfl) : wpList P ops Q (o :: rest) a w := by
  have hy := yielded_undef (ops := ops) hj (hA.at_ t _ hv)
  unfold wpList
  rw [if_neg (by simp [Region.wanted, hg, hy])]
  exact kk _ (by rw [hd]; exact hA.put t' _ (by have := Nat.le_of_ble_eq_true ht; omega))
theorem puOffU {M : List Nat} {F0 VL : List (Nat × Value)} {p j t : Nat} {b : Bool} {o : Oper} (ho : ops[p]? = some o) (hv : lk VL p = some undef) (hg : o.guard = some (j, b)) (hj : (ops[j]?).bind (·.dst) = some t) (E : List (Nat × Value)) (hE0 : lk E t = some undef) (hE : E.map (fun q => src ops M F0 VL p q.1) = E.map (fun q => some q.2) := by rfl) : PureOk P ops n D M F0 VL w p :=
  ⟨o, undef, E, ho, hv, hE, fun a he => by
    have hy := yielded_undef (ops := ops) hj (he.at_ t _ hE0)
    unfold Runs
    rw [if_neg (by simp [Region.wanted, hg, hy])]⟩
theorem efOffU {M : List Nat} {F0 : List (Nat × Value)} {effs done : List Nat} {m e j t : Nat} {b : Bool} {o : Oper} {VL : List (Nat × Value)} (ho : ops[e]? = some o) (hg : o.guard = some (j, b)) (hj : (ops[j]?).bind (·.dst) = some t) (E : List (Nat × Value)) (hE0 : lk E t = some undef) (NV : List (Nat × Value)) (hNV : NV.all (fun q => (lk ((e, undef) :: VL) q.1).isNone) = true) (h : DrawOk P ops Q n D M F0 effs m (e :: done) (NV ++ (e, undef) :: VL) w)
    (hE : E.map (fun q => src ops M F0 VL e q.1) = E.map (fun q => some q.2) := by rfl) : EffOk P ops Q n D M F0 effs m done VL w e :=
  ⟨o, E, ho, hE, fun a he => by
    have hy := yielded_undef (ops := ops) hj (he.at_ t _ hE0)
    rw [if_neg (by simp [Region.wanted, hg, hy])]
    exact ⟨NV, hNV, h⟩⟩

theorem y_move (hA : FR n D a F) (ho : o.op = .move x := by rfl) (hx : ev F x = some v := by rfl) : RunV P o a w v := r_move ho (hA.ev hx)
theorem y_assign (hA : FR n D a F) (ho : o.op = .assign x := by rfl) (hx : ev F x = some v := by rfl) : RunV P o a w v := r_assign ho (hA.ev hx)
theorem y_pickt {cx x y : Operand} {b : Bool} (hb : b = true) (hA : FR n D a F) (ho : o.op = .pick cx x y := by rfl) (hc : ev F cx = some (.bool b) := by rfl) (hx : ev F x = some v := by rfl) : RunV P o a w v := r_pick_t ho (by rw [hA.ev hc, hb]) (hA.ev hx)
theorem y_pickf {cx x y : Operand} {b : Bool} (hb : b = false) (hA : FR n D a F) (ho : o.op = .pick cx x y := by rfl) (hc : ev F cx = some (.bool b) := by rfl) (hx : ev F y = some v := by rfl) : RunV P o a w v := r_pick_f ho (by rw [hA.ev hc, hb]) (hA.ev hx)
theorem y_fab {s i off g o' : Nat} (hf : FA P s i off) (hA : FR n D a F) (ho : o.op = .fieldAddr s x i := by rfl) (hx : ev F x = some (.pointer (some ⟨g, o', none⟩)) := by rfl) : RunV P o a w (.pointer (some ⟨g, o' + off, none⟩)) := by rw [← add_mk]; exact r_fieldAddr hf ho (hA.ev hx)
theorem y_fae {s i off m : Nat} {A : Option Addr} (hf : FA P s i off) (hA : FR n D a F) (ho : o.op = .fieldAddr s x i := by rfl) (hx : ev F x = some (.pointer (some (ea A m))) := by rfl) : RunV P o a w (.pointer (some (ea A (m + off)))) := by rw [← ea_add]; exact r_fieldAddr hf ho (hA.ev hx)
theorem y_len {A : Option Addr} {m c : Nat} {xs : List α} (hu : P.underlying t' = some (.slice e)) (hn : xs.length = m) (hA : FR n D a F) (ho : o.op = .call { callee := .builtin .len, args := #[x], argTypes := #[t'] } := by rfl) (hx : ev F x = some (.slice A m c) := by rfl) : RunV P o a w (.int .i64 (xs.length : Int)) := by rw [hn]; exact r_len hu ho (hA.ev hx)
theorem y_ia {A : Option Addr} {m c sz : Nat} {xs : List α} {z : α} (hu : P.underlying t' = some (.slice e)) (hi : (P.info? e).map (·.size) = some sz) (hr : Rd d w A xs ∧ xs.length = m ∧ m ≤ c ∧ c ≤ maxLen) (hz : at_ xs i = some z) (hA : FR n D a F)
    (ho : o.op = .indexAddr t' x y := by rfl) (hx : ev F x = some (.slice A m c) := by rfl) (hy : ev F y = some (.int k i) := by rfl) : RunV P o a w (.pointer (some (ea A (i.toNat * sz)))) :=
  have h := at_some hz
  r_indexAddr hu hi ho (hA.ev hx) (hA.ev hy) (hr.1.isSome_ h.1 h.2.1) h.1 (by have := hr.2.1; omega)
theorem y_ld {dd : TypeDesc} {ad : Addr} (hu : P.underlying t' = some dd) (hc : w.cell? ad = some v) (hA : FR n D a F) (hf : flat dd = true := by rfl) (ho : o.op = .load t' x := by rfl) (hx : ev F x = some (.pointer (some ad)) := by rfl) : RunV P o a w v := r_load hu hf ho (hA.ev hx) hc
theorem y_lda {dd : TypeDesc} {ad : Addr} {cs : List Value} (hu : P.underlying t' = some dd) (hi : (P.info? t').map (·.size) = some cs.length) (hc : ∀ j u, cs[j]? = some u → w.cell? (ad.add j) = some u) (hA : FR n D a F) (hf : flat dd = false := by rfl) (ho : o.op = .load t' x := by rfl) (hx : ev F x = some (.pointer (some ad)) := by rfl) : RunV P o a w (.agg cs.toArray) := r_loadAgg hu hf hi ho (hA.ev hx) hc

theorem z_box {cs : List Value} (hA : FR n D a F) (hS : SH r L w) (kk : ∀ g w', SH r (blk g T cs :: L) w' → K (a.put o.dst (.pointer (some ⟨g, 0, none⟩))) w') (ho : o.op = .box T x := by rfl) (hx : ev F x = some v := by rfl) (hcs : v.cells = cs.toArray := by rfl) : o.wp P a w K Q := e_box hS ho (hA.ev hx) hcs kk
theorem z_call {f : FuncId} {as : Array Operand} {ts : Array TypeId} {vals : Array Value} {R : Value → World → Prop} (hf : EN P f) (hA : FR n D a F) (hC : Ret P f vals w R) (kk : ∀ v w', R v w' → K (a.put o.dst v) w') (ho : o.op = .call { callee := .value (.func f), args := as, argTypes := ts } := by rfl) (hargs : as.toList.map (ev F) = vals.toList.map some := by rfl) : o.wp P a w K Q := e_call hf ho (evs hA hargs) hC kk
theorem z_callv {f : FuncId} {fx : Operand} {as : Array Operand} {ts : Array TypeId} {vals caps vs : Array Value} {R : Value → World → Prop} (hf : EN P f) (hA : FR n D a F) (hC : Ret P f vals w R) (kk : ∀ v w', R v w' → K (a.put o.dst v) w') (ho : o.op = .call { callee := .value fx, args := as, argTypes := ts } := by rfl) (hfx : ev F fx = some (.func (.func f) #[] caps) := by rfl) (hargs : as.toList.map (ev F) = vs.toList.map some := by rfl) (hv : vs ++ caps = vals := by rfl) : o.wp P a w K Q := e_callv hf ho (hA.ev hfx) (by rw [evs hA hargs]; exact hv) hC kk
theorem z_stb (q : Nat) {g off : Nat} {cs vs : List Value} {L' : List HP} (hi : (P.info? t').map (·.size) = some vs.length) (hA : FR n D a F) (hS : SH r L w) (hL : pk q L = blk g T cs :: L') (kk : ∀ w', SH r (blk g T (splice cs off vs) :: L') w' → K (a.put o.dst undef) w')
    (ho : o.op = .store t' x y := by rfl) (hx : ev F x = some (.pointer (some ⟨g, off, none⟩)) := by rfl) (hy : ev F y = some v := by rfl) (hv : v.cells.toList = vs := by rfl) (h1 : vs.all (·.oneCell') = true := by rfl) (hl : Nat.ble (off + vs.length) cs.length = true := by rfl) : o.wp P a w K Q := e_store_blk q hS hL ho (hA.ev hx) (hA.ev hy) hv (fun v hv => List.all_eq_true.1 h1 v hv) (Nat.le_of_ble_eq_true hl) hi kk
theorem z_sto (q : Nat) {A : Option Addr} {n1 c1 off j : Nat} {xs : List α} {z z' : α} {vs : List Value} {L' : List HP} (hi : (P.info? t').map (·.size) = some vs.length) (hA : FR n D a F) (hS : SH r L w) (hL : pk q L = own d e A n1 c1 xs :: L') (hj : xs[j]? = some z) (hV : ∀ c, d.V z c → d.V z' (splice c off vs)) (kk : ∀ w', SH r (own d e A n1 c1 (xs.set j z') :: L') w' → K (a.put o.dst undef) w')
    (ho : o.op = .store t' x y := by rfl) (hx : ev F x = some (.pointer (some (ea A (j * d.sz + off)))) := by rfl) (hy : ev F y = some v := by rfl) (hv : v.cells.toList = vs := by rfl) (h1 : vs.all (·.oneCell') = true := by rfl) (hl : Nat.ble (off + vs.length) d.sz = true := by rfl) : o.wp P a w K Q := e_store_own q hS hL ho (hA.ev hx) (hA.ev hy) hv (fun v hv => List.all_eq_true.1 h1 v hv) (Nat.le_of_ble_eq_true hl) hi hj hV kk
theorem z_bsl {m : Nat} {parts : Array (Nat × Operand)} {ps : Array (Nat × Value)} {cells : List Value} {xs : List α}
    (hr : ∀ w : World, (Instr.buildSlice t' m ps).run P w = .ok (.slice (some ⟨w.heap.size, 0, none⟩) m m) (w.alloc (.cells cells.toArray e))) (hm : xs.length = m) (hL : Lay d xs cells) (hA : FR n D a F) (hS : SH r L w) (kk : ∀ g w', SH r (own d e (some ⟨g, 0, none⟩) m m xs :: L) w' → K (a.put o.dst (.slice (some ⟨g, 0, none⟩) m m)) w')
    (ho : o.op = .buildSlice t' m parts := by rfl) (hx : parts.toList.map (fun p => (p.1, ev F p.2)) = ps.toList.map (fun p => (p.1, some p.2)) := by rfl) (hmx : Nat.ble m 65536 = true := by rfl) : o.wp P a w K Q :=
  e_buildSlice hS ho (ps := ps) (mapev2 hA hx) hr hm (by have := Nat.le_of_ble_eq_true hmx; simp only [maxLen]; omega) hL kk
theorem z_app (q : Nat) {z : Value} {bytes n1 c1 n2 c2 : Nat} {A A2 : Option Addr} {xs ys : List α} {L' : List HP} (hi : (P.info? e).map (fun i => (i.zero, i.size, i.bytes)) = some (some z, d.sz, bytes)) (ht' : P.underlying t' = some (.slice e)) (hA : FR n D a F) (hS : SH r L w) (hr : Rd d w A2 ys) (hn2 : ys.length = n2)
    (hb : xs.length + ys.length ≤ 140737488355328 / bytes) (hL : pk q L = own d e A n1 c1 xs :: L') (kk : ∀ A' n' c' w', SH r (own d e A' n' c' (xs ++ ys) :: L') w' → K (a.put o.dst (.slice A' n' c')) w')
    (hz : z.cells.size = d.sz := by rfl) (hsz : Nat.blt 0 d.sz = true := by rfl) (hbp : Nat.blt 0 bytes = true := by rfl) (ho : o.op = .call { callee := .builtin .append, args := #[x, y], argTypes := #[t', t'] } := by rfl) (hx : ev F x = some (.slice A n1 c1) := by rfl) (hy : ev F y = some (.slice A2 n2 c2) := by rfl) : o.wp P a w K Q :=
  have hbp' := Nat.le_of_ble_eq_true hbp
  have hb' : (xs.length + ys.length) * bytes ≤ 140737488355328 := Nat.le_trans (Nat.mul_le_mul_right _ hb) (Nat.div_mul_le_self _ _)
  e_append q hS hL ht' hi hz (by have := Nat.le_of_ble_eq_true hsz; omega) ho (hA.ev hx) (hA.ev hy) hr hn2 (by
    have h1 : (xs.length + ys.length) * 1 ≤ (xs.length + ys.length) * bytes := Nat.mul_le_mul_left _ (by omega)
    simp only [maxLen]; omega) hb' kk
end
end Go.Proofs.Ytgjhiojkkjaloaa.E
