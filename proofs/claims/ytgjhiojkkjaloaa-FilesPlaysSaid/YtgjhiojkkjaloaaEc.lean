/- The engine's steps: what each operation comes to, in words of the slots and of the parts of memory. -/
import Derived.Test.YtgjhiojkkjaloaaEb
namespace Go.Proofs.Ytgjhiojkkjaloaa.E
open Go Go.RowKit
set_option linter.unusedVariables false
set_option linter.unusedSimpArgs false

def RunV (P : Program) (o : Oper) (a : Act) (w : World) (v : Value) : Prop := (execOp a.eval o).run P w = .ok (.value v) w

section
variable {P : Program} {ops : Array Oper} {Q : Exit → Act → World → Prop} {rest : List Oper} {o : Oper} {a : Act} {w : World} {K : Act → World → Prop}
  {n : Nat} {D : List Deferred} {F : List (Nat × Value)} {r : World} {L : List HP}

theorem RunV.wp {v : Value} (h : RunV P o a w v) (hK : K (a.put o.dst v) w) : o.wp P a w K Q := by
  unfold Oper.wp
  rw [show (execOp a.eval o).run P w = _ from h]
  exact hK

theorem wl_eff (hg : o.guard = none) (h : ∀ K : Act → World → Prop, (∀ a w, wpList P ops Q rest a w → K a w) → o.wp P a w K Q) : wpList P ops Q (o :: rest) a w := wpList_plain hg h

/-- a step that only gives a value -/
theorem wl {t : Nat} {v : Value} (hA : FR n D a F) (hd : o.dst = some t) (hg : o.guard = none) (ht : t < n) (h : RunV P o a w v)
    (k : ∀ a', FR n D a' ((t, v) :: F) → wpList P ops Q rest a' w) : wpList P ops Q (o :: rest) a w :=
  wpList_plain hg fun K hK => h.wp (hK _ _ (k _ (by rw [hd]; exact hA.put t v ht)))

theorem wl0 {v : Value} (hA : FR n D a F) (hd : o.dst = none) (hg : o.guard = none) (h : RunV P o a w v)
    (k : ∀ a', FR n D a' F → wpList P ops Q rest a' w) : wpList P ops Q (o :: rest) a w :=
  wpList_plain hg fun K hK => h.wp (hK _ _ (k _ (by rw [hd]; exact hA)))

/-! guards -/
theorem yielded_of {tmps : Array Value} {j : Nat} {t : Nat} {b : Bool} (hj : (ops[j]?).bind (·.dst) = some t) (hv : tmps[t]? = some (.bool b)) : yielded ops tmps j = some b := by
  unfold yielded
  cases ho : ops[j]? with
  | none => rw [ho] at hj; cases hj
  | some o' =>
    rw [ho] at hj
    simp only [Option.bind_some] at hj
    simp [hj, hv]

theorem wl_on {j t : Nat} {b : Bool} (hA : FR n D a F) (hg : o.guard = some (j, b)) (hj : (ops[j]?).bind (·.dst) = some t) (hv : lk F t = some (.bool b))
    (h : wpList P ops Q ({ o with guard := none } :: rest) a w) : wpList P ops Q (o :: rest) a w := by
  have hy := yielded_of (ops := ops) hj (hA.at_ t _ hv)
  unfold wpList at h ⊢
  rw [if_pos (by simp [Region.wanted])] at h
  rw [if_pos (by simp [Region.wanted, hg, hy])]
  exact h

theorem wl_off {j t : Nat} {b b' : Bool} {t' : Nat} (hA : FR n D a F) (hg : o.guard = some (j, b)) (hj : (ops[j]?).bind (·.dst) = some t) (hv : lk F t = some (.bool b')) (hb : (b' == b) = false) (hd : o.dst = some t') (ht : t' < n)
    (k : ∀ a', FR n D a' ((t', undef) :: F) → wpList P ops Q rest a' w) : wpList P ops Q (o :: rest) a w := by
  have hy := yielded_of (ops := ops) hj (hA.at_ t _ hv)
  unfold wpList
  rw [if_neg (by simp only [Region.wanted, hg, hy]; intro h; simp at h hb; exact hb h)]
  exact k _ (by rw [hd]; exact hA.put t' _ ht)

theorem wl_off0 {j t : Nat} {b b' : Bool} (hA : FR n D a F) (hg : o.guard = some (j, b)) (hj : (ops[j]?).bind (·.dst) = some t) (hv : lk F t = some (.bool b')) (hb : (b' == b) = false) (hd : o.dst = none)
    (k : ∀ a', FR n D a' F → wpList P ops Q rest a' w) : wpList P ops Q (o :: rest) a w := by
  have hy := yielded_of (ops := ops) hj (hA.at_ t _ hv)
  unfold wpList
  rw [if_neg (by simp only [Region.wanted, hg, hy]; intro h; simp at h hb; exact hb h)]
  exact k _ (by rw [hd]; exact hA)

/-! plain values -/
theorem r_move {x : Operand} {v : Value} (ho : o.op = .move x) (hx : a.eval x = v) : RunV P o a w v := by unfold RunV execOp; rw [ho, ← hx]; rfl
theorem r_assign {x : Operand} {v : Value} (ho : o.op = .assign x) (hx : a.eval x = v) : RunV P o a w v := by unfold RunV execOp; rw [ho, ← hx]; rfl
theorem r_pick_t {c x y : Operand} {v : Value} (ho : o.op = .pick c x y) (hc : a.eval c = .bool true) (hx : a.eval x = v) : RunV P o a w v := by
  unfold RunV execOp; rw [ho]; simp only [hc, hx]; rfl
theorem r_pick_f {c x y : Operand} {v : Value} (ho : o.op = .pick c x y) (hc : a.eval c = .bool false) (hy : a.eval y = v) : RunV P o a w v := by
  unfold RunV execOp; rw [ho]; simp only [hc, hy]; rfl

theorem r_bin {op : BinOp} {x y : Operand} {xt yt : TypeId} {vx vy v : Value} (ho : o.op = .binOp op xt x y yt) (hx : a.eval x = vx) (hy : a.eval y = vy)
    (hr : ∀ w, ((do eqGuard op xt x y vx vy; binOp op xt vx vy : Sem Value)).run P w = .ok v w) : RunV P o a w v := by
  unfold RunV execOp; rw [ho]; simp only [hx, hy]
  have := hr w
  simp only [Sem.run_bind, Sem.run_pure] at this ⊢
  rw [this]; rfl

theorem equal_of {t : TypeId} {x y : Value} {b : Bool} (h : ∀ d, (Op.equalIn (d + 1) t x y).run P w = .ok b w) : (Op.equal t x y).run P w = .ok b w := h 9999

section ints
variable {x y : Operand} {xt yt : TypeId} {k : IntKind} {i j : Int}
theorem r_add (ho : o.op = .binOp .add xt x y yt) (hx : a.eval x = .int k i) (hy : a.eval y = .int k j) : RunV P o a w (.int k (k.wrap (i + j))) := r_bin ho hx hy fun _ => by cases k <;> rfl
theorem r_sub (ho : o.op = .binOp .sub xt x y yt) (hx : a.eval x = .int k i) (hy : a.eval y = .int k j) : RunV P o a w (.int k (k.wrap (i - j))) := r_bin ho hx hy fun _ => by cases k <;> rfl
theorem r_mul (ho : o.op = .binOp .mul xt x y yt) (hx : a.eval x = .int k i) (hy : a.eval y = .int k j) : RunV P o a w (.int k (k.wrap (i * j))) := r_bin ho hx hy fun _ => by cases k <;> rfl
theorem r_quo (ho : o.op = .binOp .quo xt x y yt) (hx : a.eval x = .int k i) (hy : a.eval y = .int k j) (h0 : j ≠ 0) : RunV P o a w (.int k (k.wrap (i.tdiv j))) :=
  r_bin ho hx hy fun _ => by cases k <;> simp [eqGuard, binOp, Op.intDiv, h0]
theorem r_rem (ho : o.op = .binOp .rem xt x y yt) (hx : a.eval x = .int k i) (hy : a.eval y = .int k j) (h0 : j ≠ 0) : RunV P o a w (.int k (i.tmod j)) :=
  r_bin ho hx hy fun _ => by cases k <;> simp [eqGuard, binOp, Op.intDiv, h0]
def iand (k : IntKind) (i j : Int) : Int := k.wrap ((BitVec.ofInt k.bits i &&& BitVec.ofInt k.bits j).toNat)
def ior (k : IntKind) (i j : Int) : Int := k.wrap ((BitVec.ofInt k.bits i ||| BitVec.ofInt k.bits j).toNat)
def ixor (k : IntKind) (i j : Int) : Int := k.wrap ((BitVec.ofInt k.bits i ^^^ BitVec.ofInt k.bits j).toNat)
def iandNot (k : IntKind) (i j : Int) : Int := k.wrap ((BitVec.ofInt k.bits i &&& ~~~ BitVec.ofInt k.bits j).toNat)
def ishl (k : IntKind) (i j : Int) : Int := k.wrap (i * 2 ^ (min j.toNat k.bits))
def ishr (k : IntKind) (i j : Int) : Int := i.fdiv (2 ^ (min j.toNat k.bits))
theorem r_and (ho : o.op = .binOp .and xt x y yt) (hx : a.eval x = .int k i) (hy : a.eval y = .int k j) : RunV P o a w (.int k (iand k i j)) := r_bin ho hx hy fun _ => by cases k <;> rfl
theorem r_or (ho : o.op = .binOp .or xt x y yt) (hx : a.eval x = .int k i) (hy : a.eval y = .int k j) : RunV P o a w (.int k (ior k i j)) := r_bin ho hx hy fun _ => by cases k <;> rfl
theorem r_xor (ho : o.op = .binOp .xor xt x y yt) (hx : a.eval x = .int k i) (hy : a.eval y = .int k j) : RunV P o a w (.int k (ixor k i j)) := r_bin ho hx hy fun _ => by cases k <;> rfl
theorem r_andNot (ho : o.op = .binOp .andNot xt x y yt) (hx : a.eval x = .int k i) (hy : a.eval y = .int k j) : RunV P o a w (.int k (iandNot k i j)) := r_bin ho hx hy fun _ => by cases k <;> rfl
theorem r_shl {k' : IntKind} (ho : o.op = .binOp .shl xt x y yt) (hx : a.eval x = .int k i) (hy : a.eval y = .int k' j) (h0 : 0 ≤ j) : RunV P o a w (.int k (ishl k i j)) :=
  r_bin ho hx hy fun _ => by simp [eqGuard, binOp, Op.shift, ishl, Int.not_lt.2 h0]
theorem r_shr {k' : IntKind} (ho : o.op = .binOp .shr xt x y yt) (hx : a.eval x = .int k i) (hy : a.eval y = .int k' j) (h0 : 0 ≤ j) : RunV P o a w (.int k (ishr k i j)) :=
  r_bin ho hx hy fun _ => by simp [eqGuard, binOp, Op.shift, ishr, Int.not_lt.2 h0]
theorem r_eqI (ho : o.op = .binOp .eql xt x y yt) (hx : a.eval x = .int k i) (hy : a.eval y = .int k j) : RunV P o a w (.bool (i == j)) := r_bin ho hx hy fun _ => by cases k <;> rfl
theorem r_neI (ho : o.op = .binOp .neq xt x y yt) (hx : a.eval x = .int k i) (hy : a.eval y = .int k j) : RunV P o a w (.bool (i != j)) := r_bin ho hx hy fun _ => by cases k <;> rfl
theorem r_ltI (ho : o.op = .binOp .lss xt x y yt) (hx : a.eval x = .int k i) (hy : a.eval y = .int k j) : RunV P o a w (.bool (decide (i < j))) := r_bin ho hx hy fun _ => by cases k <;> rfl
theorem r_leI (ho : o.op = .binOp .leq xt x y yt) (hx : a.eval x = .int k i) (hy : a.eval y = .int k j) : RunV P o a w (.bool (decide (i ≤ j))) := r_bin ho hx hy fun _ => by cases k <;> rfl
theorem r_gtI (ho : o.op = .binOp .gtr xt x y yt) (hx : a.eval x = .int k i) (hy : a.eval y = .int k j) : RunV P o a w (.bool (decide (j < i))) := r_bin ho hx hy fun _ => by cases k <;> rfl
theorem r_geI (ho : o.op = .binOp .geq xt x y yt) (hx : a.eval x = .int k i) (hy : a.eval y = .int k j) : RunV P o a w (.bool (decide (j ≤ i))) := r_bin ho hx hy fun _ => by cases k <;> rfl
theorem r_eqB {b c : Bool} (hu : P.underlying xt = some .bool) (ho : o.op = .binOp .eql xt x y yt) (hx : a.eval x = .bool b) (hy : a.eval y = .bool c) : RunV P o a w (.bool (b == c)) :=
  r_bin ho hx hy fun w => by
    show (do pure (.bool (← Op.equal xt (.bool b) (.bool c))) : Sem Value).run P w = _
    rw [Sem.run_bind, equal_of (b := (b == c)) fun d => by simp [Op.equalIn, run_underlying hu]]; rfl
theorem r_neB {b c : Bool} (hu : P.underlying xt = some .bool) (ho : o.op = .binOp .neq xt x y yt) (hx : a.eval x = .bool b) (hy : a.eval y = .bool c) : RunV P o a w (.bool (!(b == c))) :=
  r_bin ho hx hy fun w => by
    show (do pure (.bool (!(← Op.equal xt (.bool b) (.bool c)))) : Sem Value).run P w = _
    rw [Sem.run_bind, equal_of (b := (b == c)) fun d => by simp [Op.equalIn, run_underlying hu]]; rfl
/-- a pointer against nil -/
theorem r_eqNilP {e : TypeId} {p : Option Addr} (hu : P.underlying xt = some (.pointer e)) (ho : o.op = .binOp .eql xt x y yt) (hx : a.eval x = .pointer p) (hy : a.eval y = .pointer none) : RunV P o a w (.bool p.isNone) :=
  r_bin ho hx hy fun w => by
    show (do pure (.bool (← Op.equal xt (.pointer p) (.pointer none))) : Sem Value).run P w = _
    rw [Sem.run_bind, equal_of (b := p.isNone) fun d => by cases p <;> simp [Op.equalIn, run_underlying hu]]; rfl
theorem r_neNilP {e : TypeId} {p : Option Addr} (hu : P.underlying xt = some (.pointer e)) (ho : o.op = .binOp .neq xt x y yt) (hx : a.eval x = .pointer p) (hy : a.eval y = .pointer none) : RunV P o a w (.bool (!p.isNone)) :=
  r_bin ho hx hy fun w => by
    show (do pure (.bool (!(← Op.equal xt (.pointer p) (.pointer none)))) : Sem Value).run P w = _
    rw [Sem.run_bind, equal_of (b := p.isNone) fun d => by cases p <;> simp [Op.equalIn, run_underlying hu]]; rfl
/-- a slice against nil -/
theorem r_eqNilS {e : TypeId} {p : Option Addr} {m c : Nat} (hu : P.underlying xt = some (.slice e)) (ho : o.op = .binOp .eql xt x y yt) (hx : a.eval x = .slice p m c) (hy : a.eval y = .slice none 0 0) : RunV P o a w (.bool p.isNone) :=
  r_bin ho hx hy fun w => by
    show (do pure (.bool (← Op.equal xt (.slice p m c) (.slice none 0 0))) : Sem Value).run P w = _
    rw [Sem.run_bind, equal_of (b := p.isNone) fun d => by cases p <;> simp [Op.equalIn, run_underlying hu]]; rfl
theorem r_neNilS {e : TypeId} {p : Option Addr} {m c : Nat} (hu : P.underlying xt = some (.slice e)) (ho : o.op = .binOp .neq xt x y yt) (hx : a.eval x = .slice p m c) (hy : a.eval y = .slice none 0 0) : RunV P o a w (.bool (!p.isNone)) :=
  r_bin ho hx hy fun w => by
    show (do pure (.bool (!(← Op.equal xt (.slice p m c) (.slice none 0 0)))) : Sem Value).run P w = _
    rw [Sem.run_bind, equal_of (b := p.isNone) fun d => by cases p <;> simp [Op.equalIn, run_underlying hu]]; rfl
theorem r_not {t' : TypeId} {b : Bool} (ho : o.op = .unOp .not t' x) (hx : a.eval x = .bool b) : RunV P o a w (.bool (!b)) := by
  unfold RunV execOp; rw [ho]; simp only [hx]; rfl
theorem r_neg {t' : TypeId} (ho : o.op = .unOp .neg t' x) (hx : a.eval x = .int k i) : RunV P o a w (.int k (k.wrap (0 - i))) := by
  unfold RunV execOp; rw [ho]; simp only [hx]; rfl
theorem r_compl {t' : TypeId} (ho : o.op = .unOp .xor t' x) (hx : a.eval x = .int k i) : RunV P o a w (.int k (ixor k (if k.signed then -1 else k.max) i)) := by
  unfold RunV execOp; rw [ho]; simp only [hx]; rfl
theorem r_convI {src dst : TypeId} {ds : TypeDesc} {k' : IntKind} (hs : P.underlying src = some ds) (hd : P.underlying dst = some (.int k')) (ho : o.op = .convert src dst x) (hx : a.eval x = .int k i) : RunV P o a w (.int k' (k'.wrap i)) := by
  unfold RunV execOp; rw [ho]; simp [hx, convert, run_underlying hs, run_underlying hd, Conv.intToInt]
end ints

/-! strings -/
def str (s : List UInt8) : Value := .string ⟨s.toArray⟩
theorem ba_toList (s : List UInt8) : (⟨s.toArray⟩ : ByteArray).toList = s := by
  have key : ∀ (b : ByteArray) (i : Nat) (r : List UInt8), ByteArray.toList.loop b i r = r.reverse ++ b.data.toList.drop i := by
    intro b i r
    induction h : b.size - i generalizing i r with
    | zero =>
      unfold ByteArray.toList.loop
      rw [if_neg (by omega), List.drop_eq_nil_of_le (by have : b.data.size = b.size := rfl; simp; omega), List.append_nil]
    | succ m ih =>
      have hlt : i < b.size := by omega
      have hlt' : i < b.data.toList.length := by simpa using hlt
      unfold ByteArray.toList.loop
      rw [if_pos hlt, ih _ _ (by omega), List.reverse_cons, List.append_assoc]
      congr 1
      rw [List.drop_eq_getElem_cons hlt']
      simp only [List.singleton_append, List.cons.injEq, and_true]
      show b.data[i]! = _
      rw [getElem!_pos b.data i (by simpa using hlt)]
      simp
  unfold ByteArray.toList
  rw [key]
  simp
theorem ba_size (s : List UInt8) : (⟨s.toArray⟩ : ByteArray).size = s.length := by show s.toArray.size = _; simp
section strings
variable {x y : Operand} {xt yt : TypeId} {s u : List UInt8}
theorem r_eqS (ho : o.op = .binOp .eql xt x y yt) (hx : a.eval x = str s) (hy : a.eval y = str u) : RunV P o a w (.bool (s == u)) :=
  r_bin ho hx hy fun _ => by simp [str, eqGuard, binOp, Op.stringOp, ba_toList]
theorem r_neS (ho : o.op = .binOp .neq xt x y yt) (hx : a.eval x = str s) (hy : a.eval y = str u) : RunV P o a w (.bool (!(s == u))) :=
  r_bin ho hx hy fun _ => by simp [str, eqGuard, binOp, Op.stringOp, ba_toList]
theorem r_ltS (ho : o.op = .binOp .lss xt x y yt) (hx : a.eval x = str s) (hy : a.eval y = str u) : RunV P o a w (.bool (Op.bytesLess s u)) :=
  r_bin ho hx hy fun _ => by simp [str, eqGuard, binOp, Op.stringOp, ba_toList]
theorem r_leS (ho : o.op = .binOp .leq xt x y yt) (hx : a.eval x = str s) (hy : a.eval y = str u) : RunV P o a w (.bool (Op.bytesLess s u || s == u)) :=
  r_bin ho hx hy fun _ => by simp [str, eqGuard, binOp, Op.stringOp, ba_toList]
theorem r_gtS (ho : o.op = .binOp .gtr xt x y yt) (hx : a.eval x = str s) (hy : a.eval y = str u) : RunV P o a w (.bool (!(Op.bytesLess s u || s == u))) :=
  r_bin ho hx hy fun _ => by simp [str, eqGuard, binOp, Op.stringOp, ba_toList]
theorem r_geS (ho : o.op = .binOp .geq xt x y yt) (hx : a.eval x = str s) (hy : a.eval y = str u) : RunV P o a w (.bool (!Op.bytesLess s u)) :=
  r_bin ho hx hy fun _ => by simp [str, eqGuard, binOp, Op.stringOp, ba_toList]
theorem r_catS (ho : o.op = .binOp .add xt x y yt) (hx : a.eval x = str s) (hy : a.eval y = str u) (hl : s.length + u.length ≤ maxLen) : RunV P o a w (str (s ++ u)) :=
  r_bin ho hx hy fun _ => by
    have h : ¬ (((s.length + u.length : Nat) : Int) > IntKind.i64.max) := by
      simp [maxLen] at hl
      simp [IntKind.max, IntKind.signed, IntKind.bits]
      omega
    have e1 := ba_size s
    have e2 := ba_size u
    have e3 : (⟨s.toArray⟩ : ByteArray) ++ ⟨u.toArray⟩ = ⟨(s ++ u).toArray⟩ := by
      apply ByteArray.ext
      rw [ByteArray.data_append]
      simp
    simp only [str, eqGuard, binOp, Op.stringOp, e1, e2, if_neg h, e3]
    rfl
theorem r_builtin {b : Builtin} {args : Array Operand} {ts : Array TypeId} {v : Value} (ho : o.op = .call { callee := .builtin b, args := args, argTypes := ts })
    (hr : (builtin b ts o.type (args.map fun | .const _ => true | _ => false) (args.map a.eval)).run P w = .ok (.value v) w) : RunV P o a w v := by
  unfold RunV execOp; rw [ho]
  simp only [resolve, Sem.run_bind, Sem.run_pure, Result.andThen_ok, invoke]
  exact hr
theorem r_lenS (hu : P.underlying xt = some .string) (ho : o.op = .call { callee := .builtin .len, args := #[x], argTypes := #[xt] }) (hx : a.eval x = str s) : RunV P o a w (.int .i64 (s.length : Int)) :=
  r_builtin ho (by
    have e : #[x].map a.eval = #[str s] := by simp [hx]
    rw [e]
    show (do pure (.value (← Builtin.len_ #[xt] o.type #[str s])) : Sem Next).run P w = _
    rw [Sem.run_bind]
    simp [Builtin.len_, str, ba_size, goInt, run_underlying hu])
end strings

/-! addresses, cells -/
section mem
variable {x y : Operand} {t e : TypeId} {v : Value}
theorem r_nilCheck {ad : Addr} (ho : o.op = .nilCheck x) (hx : a.eval x = .pointer (some ad)) : RunV P o a w (.pointer (some ad)) := by
  unfold RunV execOp; rw [ho]; simp only [hx]; rfl
theorem r_nilCheckF {f : FuncId} {fs cs : Array Value} (ho : o.op = .nilCheck x) (hx : a.eval x = .func (.func f) fs cs) : RunV P o a w (.func (.func f) fs cs) := by
  unfold RunV execOp; rw [ho]; simp only [hx]; rfl
/-- where a field lies -/
def FA (P : Program) (s i off : Nat) : Prop := ∀ (ad : Addr) (w : World), (Instr.fieldAt s (.pointer (some ad)) i).run P w = .ok (.pointer (some (ad.add off))) w
theorem r_fieldAddr {s i off : Nat} {ad : Addr} (hf : FA P s i off) (ho : o.op = .fieldAddr s x i) (hx : a.eval x = .pointer (some ad)) : RunV P o a w (.pointer (some (ad.add off))) := by
  have h := hf ad w
  unfold RunV execOp; rw [ho]; simp only [hx, Sem.run_bind, h]; rfl
theorem r_field {s i : Nat} {vx : Value} (hf : ∀ w, (Instr.field s vx i).run P w = .ok v w) (ho : o.op = .field s x i) (hx : a.eval x = vx) : RunV P o a w v := by
  unfold RunV execOp; rw [ho]; simp only [hx, Sem.run_bind, hf]; rfl
theorem r_extract {vs : Array Value} {i : Nat} (ho : o.op = .extract x i) (hx : a.eval x = .tuple vs) (hi : vs[i]? = some v) : RunV P o a w v := by
  unfold RunV execOp; rw [ho]; simp only [hx, Instr.extract, hi]; rfl
theorem r_makeFunc {fn : Fn} {xs ys : Array Operand} {vs us : Array Value} (ho : o.op = .makeFunc fn xs ys) (hx : xs.map a.eval = vs) (hy : ys.map a.eval = us) : RunV P o a w (.func fn vs us) := by
  unfold RunV execOp; rw [ho]; simp only [hx, hy]; rfl
theorem r_build {parts : Array (Nat × Operand)} {ps : Array (Nat × Value)} (ho : o.op = .build t parts) (hx : parts.map (fun (i, x) => (i, a.eval x)) = ps) (hr : ∀ w, (Instr.build t ps).run P w = .ok v w) : RunV P o a w v := by
  unfold RunV execOp; rw [ho]; simp only [hx, Sem.run_bind, hr]; rfl
def flat (d : TypeDesc) : Bool := match d with | .struct _ | .array _ _ => false | _ => true
theorem run_isAgg_flat {d : TypeDesc} (h : P.underlying t = some d) (w : World) : (isAgg t).run P w = .ok (!flat d) w := by
  cases d <;> simp [isAgg, run_underlying h, flat]
theorem r_load {d : TypeDesc} {ad : Addr} (hu : P.underlying t = some d) (hd : flat d = true) (ho : o.op = .load t x) (hx : a.eval x = .pointer (some ad)) (hc : w.cell? ad = some v) : RunV P o a w v := by
  unfold RunV execOp; rw [ho]
  simp [hx, Instr.loadAt, Instr.sureAddr, loadVar, run_isAgg_flat hu, hd, hc]
theorem r_loadAgg {d : TypeDesc} {ad : Addr} {cs : List Value} (hu : P.underlying t = some d) (hd : flat d = false) (hi : (P.info? t).map (·.size) = some cs.length) (ho : o.op = .load t x) (hx : a.eval x = .pointer (some ad))
    (hc : ∀ j u, cs[j]? = some u → w.cell? (ad.add j) = some u) : RunV P o a w (.agg cs.toArray) := by
  unfold RunV execOp; rw [ho]
  obtain ⟨i, hi1, hi2⟩ := Option.map_eq_some_iff.1 hi
  have hagg : (isAgg t).run P w = .ok true w := by rw [run_isAgg_flat hu, hd]; rfl
  have hl := run_loadCells_list (P := P) w ad cs hc
  simp [hx, Instr.loadAt, Instr.sureAddr, loadVar, hagg, sizeOf, typeInfo, hi1, hi2, hl]
/-- an element's address -/
def ea (A : Option Addr) (k : Nat) : Addr := (A.getD default).add k
theorem ea_add (A : Option Addr) (i j : Nat) : (ea A i).add j = ea A (i + j) := add_add' _ _ _
theorem r_indexAddr {A : Option Addr} {m c sz : Nat} {k : IntKind} {i : Int} (hu : P.underlying t = some (.slice e)) (hi : (P.info? e).map (·.size) = some sz) (ho : o.op = .indexAddr t x y) (hx : a.eval x = .slice A m c) (hy : a.eval y = .int k i)
    (hA : A.isSome = true) (h0 : 0 ≤ i) (h1 : i < (m : Int)) : RunV P o a w (.pointer (some (ea A (i.toNat * sz)))) := by
  unfold RunV execOp; rw [ho]
  obtain ⟨q, hq1, hq2⟩ := Option.map_eq_some_iff.1 hi
  cases A with
  | none => cases hA
  | some ad =>
    simp [hx, hy, Instr.indexAt, asIntOf, run_underlying hu, h0, h1, sizeOf, typeInfo, hq1, hq2, ea]
theorem Rd.isSome_ {α : Type} {d : Kd α} {A : Option Addr} {xs : List α} (h : Rd d w A xs) {i : Int} (h0 : 0 ≤ i) (h1 : i < (xs.length : Int)) : A.isSome = true := by
  obtain ⟨ad, rfl, _⟩ := h (by omega)
  rfl
/-- an element's cells -/
theorem Rd.elem {α : Type} {d : Kd α} {A : Option Addr} {xs : List α} (h : Rd d w A xs) {i : Nat} {z : α} (hi : xs[i]? = some z) :
    ∃ cs, d.V z cs ∧ ∀ q u, cs[q]? = some u → w.cell? (ea A (i * d.sz + q)) = some u := by
  obtain ⟨ad, rfl, hr⟩ := h (by have := (List.getElem?_eq_some_iff.1 hi).1; omega)
  exact hr i z hi
theorem r_len {A : Option Addr} {m c : Nat} (hu : P.underlying t = some (.slice e)) (ho : o.op = .call { callee := .builtin .len, args := #[x], argTypes := #[t] }) (hx : a.eval x = .slice A m c) : RunV P o a w (.int .i64 (m : Int)) :=
  r_builtin ho (by
    have e : #[x].map a.eval = #[.slice A m c] := by simp [hx]
    rw [e]
    show (do pure (.value (← Builtin.len_ #[t] o.type #[.slice A m c])) : Sem Next).run P w = _
    rw [Sem.run_bind]
    simp [Builtin.len_, goInt, run_underlying hu])
theorem r_cap {A : Option Addr} {m c : Nat} (hu : P.underlying t = some (.slice e)) (ho : o.op = .call { callee := .builtin .cap, args := #[x], argTypes := #[t] }) (hx : a.eval x = .slice A m c) : RunV P o a w (.int .i64 (c : Int)) :=
  r_builtin ho (by
    have e : #[x].map a.eval = #[.slice A m c] := by simp [hx]
    rw [e]
    show (do pure (.value (← Builtin.cap_ #[t] o.type #[.slice A m c])) : Sem Next).run P w = _
    rw [Sem.run_bind]
    simp [Builtin.cap_, goInt, run_underlying hu])
theorem r_minI {k : IntKind} {i j : Int} {ts : Array TypeId} (ho : o.op = .call { callee := .builtin .min, args := #[x, y], argTypes := ts }) (hx : a.eval x = .int k i) (hy : a.eval y = .int k j) : RunV P o a w (.int k (if j < i then j else i)) :=
  r_builtin ho (by
    have e : #[x, y].map a.eval = #[.int k i, .int k j] := by simp [hx, hy]
    rw [e]
    show (do pure (.value (← Builtin.min_ ts o.type #[.int k i, .int k j])) : Sem Next).run P w = _
    rw [Sem.run_bind]
    simp [Builtin.min_, Builtin.min2])
theorem r_maxI {k : IntKind} {i j : Int} {ts : Array TypeId} (ho : o.op = .call { callee := .builtin .max, args := #[x, y], argTypes := ts }) (hx : a.eval x = .int k i) (hy : a.eval y = .int k j) : RunV P o a w (.int k (if i < j then j else i)) :=
  r_builtin ho (by
    have e : #[x, y].map a.eval = #[.int k i, .int k j] := by simp [hx, hy]
    rw [e]
    show (do pure (.value (← Builtin.max_ ts o.type #[.int k i, .int k j])) : Sem Next).run P w = _
    rw [Sem.run_bind]
    simp [Builtin.max_, Builtin.max2])
/-- a slice cut anew -/
theorem elem_of (hu : P.underlying t = some (.slice e)) : P.elem t = e := by simp [Program.elem, hu]
section
variable {A : Option Addr} {m c sz : Nat} {l u : Int} {kl kh : IntKind} {lo hi : Operand} (hu : P.underlying t = some (.slice e)) (hi' : (P.info? e).map (·.size) = some sz)
include hu hi'
theorem r_slice_lh (ho : o.op = .slice t x (some lo) (some hi) none) (hx : a.eval x = .slice A m c) (hl : a.eval lo = .int kl l) (hh : a.eval hi = .int kh u) (h0 : 0 ≤ l) (h1 : l ≤ u) (h2 : u ≤ c) :
    RunV P o a w (.slice (if c = l.toNat then A else A.map (·.add (l.toNat * sz))) (u.toNat - l.toNat) (c - l.toNat)) := by
  obtain ⟨q, hq1, hq2⟩ := Option.map_eq_some_iff.1 hi'
  have ht : P.underlying t = some (.slice (P.elem t)) := by rw [elem_of hu]; exact hu
  have h := run_slice_lh (P := P) w t A m c ht kl kh l u h0 h1 h2
  rw [elem_of hu] at h
  have hs : (sizeOf e).run P w = .ok sz w := by simp [sizeOf, typeInfo, hq1, hq2]
  rw [hs] at h
  unfold RunV execOp; rw [ho]
  simp only [hx, hl, hh, Option.map_some, Option.map_none, Sem.run_bind, run_sliceAt_slice w t _ _ _ _ ht, h]; rfl
theorem r_slice_h (ho : o.op = .slice t x none (some hi) none) (hx : a.eval x = .slice A m c) (hh : a.eval hi = .int kh u) (h0 : 0 ≤ u) (h2 : u ≤ c) :
    RunV P o a w (.slice A u.toNat c) := by
  obtain ⟨q, hq1, hq2⟩ := Option.map_eq_some_iff.1 hi'
  have ht : P.underlying t = some (.slice (P.elem t)) := by rw [elem_of hu]; exact hu
  have h := run_slice_h (P := P) w t A m c ht kh u h0 h2
  rw [elem_of hu] at h
  have hs : (sizeOf e).run P w = .ok sz w := by simp [sizeOf, typeInfo, hq1, hq2]
  rw [hs] at h
  unfold RunV execOp; rw [ho]
  simp only [hx, hh, Option.map_some, Option.map_none, Sem.run_bind, run_sliceAt_slice w t _ _ _ _ ht, h]
  have : sliced A 0 u.toNat c sz = .slice A u.toNat c := by
    unfold sliced
    cases A <;> simp [add_zero']
  simp [Result.andThen, this]
theorem r_slice_l (ho : o.op = .slice t x (some lo) none none) (hx : a.eval x = .slice A m c) (hl : a.eval lo = .int kl l) (h0 : 0 ≤ l) (h2 : l ≤ m) :
    RunV P o a w (.slice (if c = l.toNat then A else A.map (·.add (l.toNat * sz))) (m - l.toNat) (c - l.toNat)) := by
  obtain ⟨q, hq1, hq2⟩ := Option.map_eq_some_iff.1 hi'
  have ht : P.underlying t = some (.slice (P.elem t)) := by rw [elem_of hu]; exact hu
  have h := run_slice_l (P := P) w t A m c ht kl l h0 h2
  rw [elem_of hu] at h
  have hs : (sizeOf e).run P w = .ok sz w := by simp [sizeOf, typeInfo, hq1, hq2]
  rw [hs] at h
  unfold RunV execOp; rw [ho]
  simp only [hx, hl, Option.map_some, Option.map_none, Sem.run_bind, run_sliceAt_slice w t _ _ _ _ ht, h]; rfl
end
theorem r_indexS {k : IntKind} {i : Int} {s : List UInt8} {b : UInt8} (hu : P.underlying t = some .string) (ho : o.op = .index t x y) (hx : a.eval x = str s) (hy : a.eval y = .int k i) (h0 : 0 ≤ i) (hb : s[i.toNat]? = some b) : RunV P o a w (.int .u8 (b.toNat : Int)) := by
  unfold RunV execOp; rw [ho]
  have hlt : i.toNat < s.length := (List.getElem?_eq_some_iff.1 hb).1
  have e : (⟨s.toArray⟩ : ByteArray)[i.toNat]? = some b := by
    rw [getElem?_pos _ _ (by rw [ba_size]; exact hlt)]
    have := (List.getElem?_eq_some_iff.1 hb).2
    rw [← this]
    rfl
  simp [hx, hy, str, Instr.index, asIntOf, run_underlying hu, h0, e]
end mem
end
end Go.Proofs.Ytgjhiojkkjaloaa.E
