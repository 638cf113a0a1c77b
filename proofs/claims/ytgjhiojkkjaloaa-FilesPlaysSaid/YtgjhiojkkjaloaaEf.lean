/- The engine's regions whose order is open: what only gives values may stand anywhere; what turns memory goes one behind the other. -/
import Derived.Test.YtgjhiojkkjaloaaEe
import Derived.Orders
namespace Go.Proofs.Ytgjhiojkkjaloaa.E
open Go Go.RowKit
set_option linter.unusedVariables false
set_option linter.unusedSimpArgs false

def bef (M : List Nat) (i j : Nat) : Bool := (M.getD i 0).testBit j

/-- the masks are those of the edges -/
def okM (ops : Array Oper) (M : List Nat) : Bool :=
  (List.range ops.size).all fun i => match ops[i]? with
    | none => false
    | some o => M.getD i 0 == o.after.toList.foldl (fun s e => bif Region.binds .any e then s ||| 2 ^ e.on ||| M.getD e.on 0 else s) 0 && o.after.toList.all fun e => !Region.binds .any e || Nat.blt e.on i

def wr (ops : Array Oper) (t : Nat) : Option Nat := (List.range ops.size).find? fun i => ((ops[i]?).bind fun o : Oper => o.dst) == some t
def uniq (ops : Array Oper) : Bool := (List.range ops.size).all fun i => match (ops[i]?).bind (fun o : Oper => o.dst) with
  | none => true
  | some t => wr ops t == some i

/-- where an operation's operand comes from -/
def src (ops : Array Oper) (M : List Nat) (F0 VL : List (Nat × Value)) (p t : Nat) : Option Value :=
  match wr ops t with
  | none => lk F0 t
  | some q => bif Nat.beq q p || bef M q p then lk F0 t else bif bef M p q then lk VL q else none
def srcF (ops : Array Oper) (F0 VL : List (Nat × Value)) (t : Nat) : Option Value :=
  match wr ops t with
  | none => lk F0 t
  | some q => lk VL q

def candP (ops : Array Oper) (M effs done : List Nat) : List Nat :=
  (List.range ops.size).filter fun p => !effs.contains p && effs.all fun e => (!bef M p e || done.contains e) && (!bef M e p || !done.contains e)
def candE (ops : Array Oper) (M effs done : List Nat) : List Nat :=
  effs.filter fun p => !done.contains p && effs.all fun e => (!bef M p e || done.contains e)

def AllP (f : Nat → Prop) : List Nat → Prop
  | [] => True
  | p :: ps => f p ∧ AllP f ps
theorem AllP.mem {f : Nat → Prop} : ∀ {l : List Nat}, AllP f l → ∀ {p : Nat}, p ∈ l → f p
  | _ :: _, h, _, .head _ => h.1
  | _ :: _, h, _, .tail _ hm => AllP.mem h.2 hm

def Runs (P : Program) (ops : Array Oper) (o : Oper) (a : Act) (w : World) (v : Value) : Prop :=
  if Region.wanted o (yielded ops a.tmps) = true then RunV P o a w v else v = undef

def PureOk (P : Program) (ops : Array Oper) (n : Nat) (D : List Deferred) (M : List Nat) (F0 VL : List (Nat × Value)) (w : World) (p : Nat) : Prop :=
  ∃ (o : Oper) (v : Value) (E : List (Nat × Value)), ops[p]? = some o ∧ lk VL p = some v ∧ E.map (fun q => src ops M F0 VL p q.1) = E.map (fun q => some q.2) ∧ ∀ a, FR n D a E → Runs P ops o a w v

def DrawOk (P : Program) (ops : Array Oper) (Q : Exit → Act → World → Prop) (n : Nat) (D : List Deferred) (M : List Nat) (F0 : List (Nat × Value)) (effs : List Nat) : Nat → List Nat → List (Nat × Value) → World → Prop
  | 0, done, VL, w => AllP (PureOk P ops n D M F0 VL w) (candP ops M effs done) ∧ (candE ops M effs done = [] ∧ effs.all (done.contains ·) = true) ∧
      ∃ Ff : List (Nat × Value), Ff.map (fun q => srcF ops F0 VL q.1) = Ff.map (fun q => some q.2) ∧ ∀ a, FR n D a Ff → Q .normal a w
  | m + 1, done, VL, w => AllP (PureOk P ops n D M F0 VL w) (candP ops M effs done) ∧ effs.all (done.contains ·) = false ∧
      AllP (fun e => ∃ (o : Oper) (E : List (Nat × Value)), ops[e]? = some o ∧ E.map (fun q => src ops M F0 VL e q.1) = E.map (fun q => some q.2) ∧ ∀ a, FR n D a E →
        if Region.wanted o (yielded ops a.tmps) = true then o.wp P a w (fun a' w' => ∃ v NV, a' = a.put o.dst v ∧ NV.all (fun q => (lk ((e, v) :: VL) q.1).isNone) = true ∧ DrawOk P ops Q n D M F0 effs m (e :: done) (NV ++ (e, v) :: VL) w') Q
        else ∃ NV : List (Nat × Value), NV.all (fun q => (lk ((e, undef) :: VL) q.1).isNone) = true ∧ DrawOk P ops Q n D M F0 effs m (e :: done) (NV ++ (e, undef) :: VL) w) (candE ops M effs done)

section
variable {P : Program} {ops : Array Oper} {Q : Exit → Act → World → Prop} {n : Nat} {D : List Deferred} {M : List Nat} {F0 VL : List (Nat × Value)} {effs done : List Nat} {listed : Array Bool} {a : Act} {w : World}

def Lsd (listed : Array Bool) (i : Nat) : Prop := listed.getD i false = true

structure DInv (ops : Array Oper) (n : Nat) (D : List Deferred) (F0 VL : List (Nat × Value)) (effs done : List Nat) (listed : Array Bool) (a : Act) : Prop where
  lsize : listed.size = ops.size
  size : a.tmps.size = n
  defers : a.defers = D
  closed : ∀ (p : Nat) (o : Oper) (e : Edge), ops[p]? = some o → Lsd listed p → e ∈ o.after.toList → Region.binds .any e = true → Lsd listed e.on
  old : ∀ t v, lk F0 t = some v → (∀ p, ((ops[p]?).bind fun o : Oper => o.dst) = some t → ¬ Lsd listed p) → a.tmps[t]? = some v
  new : ∀ (p : Nat) (o : Oper) (t : Nat), ops[p]? = some o → o.dst = some t → Lsd listed p → ∃ v, lk VL p = some v ∧ a.tmps[t]? = some v
  keyed : ∀ p, Lsd listed p → ∃ v, lk VL p = some v
  eff : ∀ e, e ∈ effs → (Lsd listed e ↔ e ∈ done)
  tmps : ∀ (p : Nat) (o : Oper) (t : Nat), ops[p]? = some o → o.dst = some t → t < n

theorem bef_fold {i j : Nat} : ∀ (es : List Edge) (s : Nat), (es.foldl (fun s e => bif Region.binds .any e then s ||| 2 ^ e.on ||| M.getD e.on 0 else s) s).testBit j = true →
    s.testBit j = true ∨ ∃ e ∈ es, Region.binds .any e = true ∧ (e.on = j ∨ bef M e.on j = true)
  | [], s, h => .inl h
  | e :: es, s, h => by
    rcases bef_fold (i := i) es _ h with h | ⟨e', he', hb, hj⟩
    · cases hb : Region.binds .any e
      · simp only [hb, cond_false] at h; exact .inl h
      · simp only [hb, cond_true, Nat.testBit_or, Bool.or_eq_true] at h
        rcases h with (h | h) | h
        · exact .inl h
        · refine .inr ⟨e, by simp, hb, .inl ?_⟩
          rw [Nat.testBit_two_pow] at h
          simpa using h
        · exact .inr ⟨e, by simp, hb, .inr h⟩
    · exact .inr ⟨e', by simp [he'], hb, hj⟩

theorem okM_at (h : okM ops M = true) {i : Nat} {o : Oper} (ho : ops[i]? = some o) :
    (∀ j, bef M i j = true → ∃ e ∈ o.after.toList, Region.binds .any e = true ∧ (e.on = j ∨ bef M e.on j = true)) ∧ ∀ e ∈ o.after.toList, Region.binds .any e = true → e.on < i := by
  have hi : i < ops.size := (Array.getElem?_eq_some_iff.1 ho).1
  have h' := (List.all_eq_true.1 h) i (by simpa using hi)
  rw [ho] at h'
  simp only [Bool.and_eq_true, beq_iff_eq] at h'
  obtain ⟨h1, h2⟩ := h'
  refine ⟨fun j hj => ?_, fun e he hb => ?_⟩
  · unfold bef at hj
    rw [h1] at hj
    rcases bef_fold (i := i) _ _ hj with h | h
    · simp at h
    · exact h
  · have := (List.all_eq_true.1 h2) e he
    rw [hb] at this
    simp at this
    exact this

theorem DInv.anc (hM : okM ops M = true) (hI : DInv ops n D F0 VL effs done listed a) : ∀ (i j : Nat), Lsd listed i → i < ops.size → bef M i j = true → Lsd listed j := by
  intro i
  induction i using Nat.strongRecOn with
  | _ i ih =>
    intro j hl hi hj
    have ho : ops[i]? = some ops[i] := Array.getElem?_eq_getElem hi
    obtain ⟨h1, h2⟩ := okM_at hM ho
    obtain ⟨e, he, hb, hj'⟩ := h1 j hj
    have hle := hI.closed i _ e ho hl he hb
    rcases hj' with rfl | hj'
    · exact hle
    · exact ih e.on (h2 e he hb) j hle (by have := h2 e he hb; omega) hj'

theorem ready_spec {i : Nat} (hi : i ∈ Region.ready .any ops listed) : i < ops.size ∧ listed.getD i true = false ∧ ∀ o, ops[i]? = some o → ∀ e ∈ o.after.toList, Region.binds .any e = true → Lsd listed e.on := by
  unfold Region.ready at hi
  rw [List.mem_filter, List.mem_range, Bool.and_eq_true] at hi
  obtain ⟨h1, h2, h3⟩ := hi
  refine ⟨h1, by simpa using h2, fun o ho e he hb => ?_⟩
  rw [ho] at h3
  simp only [Option.map_some, Option.getD_some] at h3
  rw [Array.all_eq_true_iff_forall_mem] at h3
  have := h3 e (Array.mem_toList_iff.1 he)
  rw [hb] at this
  simpa [Lsd] using this

theorem DInv.ready_anc (hM : okM ops M = true) (hI : DInv ops n D F0 VL effs done listed a) {i j : Nat} (hi : i ∈ Region.ready .any ops listed) (hj : bef M i j = true) : Lsd listed j := by
  obtain ⟨h1, h2, h3⟩ := ready_spec hi
  have ho : ops[i]? = some ops[i] := Array.getElem?_eq_getElem h1
  obtain ⟨q1, q2⟩ := okM_at hM ho
  obtain ⟨e, he, hb, hj'⟩ := q1 j hj
  have hle := h3 _ ho e he hb
  rcases hj' with rfl | hj'
  · exact hle
  · exact hI.anc hM e.on j hle (by have := q2 e he hb; omega) hj'

theorem not_Lsd {i : Nat} (h : listed.getD i true = false) : ¬ Lsd listed i := by
  intro hl
  unfold Lsd at hl
  rw [Array.getD_eq_getD_getElem?] at h hl
  cases hq : listed[i]? with
  | none => rw [hq] at hl; cases hl
  | some b => rw [hq] at h hl; cases b <;> simp at h hl

theorem wr_some {t q : Nat} (h : wr ops t = some q) : ((ops[q]?).bind fun o : Oper => o.dst) = some t ∧ q < ops.size := by
  unfold wr at h
  have h1 := List.find?_some h
  have h2 := List.mem_of_find?_eq_some h
  exact ⟨by simpa using h1, by simpa using h2⟩
theorem wr_none {t : Nat} (h : wr ops t = none) {p : Nat} : ((ops[p]?).bind fun o : Oper => o.dst) ≠ some t := by
  intro hp
  unfold wr at h
  rw [List.find?_eq_none] at h
  rcases Nat.lt_or_ge p ops.size with hlt | hge
  · exact h p (by simpa using hlt) (by simpa using hp)
  · rw [Array.getElem?_eq_none hge] at hp; cases hp
theorem wr_uniq (hu : uniq ops = true) {t p : Nat} (h : ((ops[p]?).bind fun o : Oper => o.dst) = some t) : wr ops t = some p := by
  have hp : p < ops.size := by
    rcases Nat.lt_or_ge p ops.size with hlt | hge
    · exact hlt
    · rw [Array.getElem?_eq_none hge] at h; cases h
  have := (List.all_eq_true.1 hu) p (by simpa using hp)
  rw [h] at this
  simpa using this

theorem DInv.src (hM : okM ops M = true) (hu : uniq ops = true) (hI : DInv ops n D F0 VL effs done listed a) {p : Nat} (hp : p ∈ Region.ready .any ops listed) {t : Nat} {v : Value} (h : src ops M F0 VL p t = some v) : a.tmps[t]? = some v := by
  obtain ⟨h1, h2, h3⟩ := ready_spec hp
  unfold E.src at h
  cases hw : wr ops t with
  | none =>
    rw [hw] at h
    exact hI.old t v h fun q hq => absurd hq (wr_none hw)
  | some q =>
    rw [hw] at h
    dsimp only at h
    obtain ⟨hq, hql⟩ := wr_some hw
    by_cases hc : (Nat.beq q p || bef M q p) = true
    · rw [hc] at h
      refine hI.old t v h fun q' hq' hl => ?_
      have e1 := wr_uniq hu hq'
      rw [hw] at e1
      cases e1
      rcases Bool.or_eq_true _ _ ▸ hc with hc | hc
      · have := Nat.eq_of_beq_eq_true hc
        subst this
        exact not_Lsd h2 hl
      · exact not_Lsd h2 (hI.anc hM q p hl hql hc)
    · rw [Bool.eq_false_iff.2 hc] at h
      simp only [cond_false] at h
      cases hb : bef M p q with
      | false => rw [hb] at h; cases h
      | true =>
        rw [hb] at h
        have hl := hI.ready_anc hM hp hb
        have ho : ops[q]? = some ops[q] := Array.getElem?_eq_getElem hql
        rw [ho] at hq
        obtain ⟨v', hv', hat⟩ := hI.new q _ t ho hq hl
        rw [show lk VL q = some v from h] at hv'
        cases hv'
        exact hat

theorem DInv.ev (hM : okM ops M = true) (hu : uniq ops = true) (hI : DInv ops n D F0 VL effs done listed a) {p : Nat} (hp : p ∈ Region.ready .any ops listed) {E : List (Nat × Value)} (hE : E.map (fun q => Go.Proofs.Ytgjhiojkkjaloaa.E.src ops M F0 VL p q.1) = E.map (fun q => some q.2)) : FR n D a E := by
  refine ⟨hI.size, hI.defers, fun t v hv => hI.src hM hu hp (M := M) ?_⟩
  induction E with
  | nil => cases hv
  | cons q r ih =>
    obtain ⟨k, u⟩ := q
    simp only [List.map_cons, List.cons.injEq] at hE
    simp only [lk] at hv
    by_cases e : Nat.beq k t = true
    · rw [e] at hv
      have e' := Nat.eq_of_beq_eq_true e
      subst e'
      cases hv
      exact hE.1
    · rw [Bool.eq_false_iff.2 e] at hv
      exact ih hE.2 hv

theorem Lsd_set {i j : Nat} (hi : i < listed.size) : Lsd (listed.setIfInBounds i true) j ↔ j = i ∨ Lsd listed j := by
  unfold Lsd
  rw [Array.getD_eq_getD_getElem?, Array.getD_eq_getD_getElem?, Array.getElem?_setIfInBounds]
  by_cases h : i = j
  · subst h; simp [hi]
  · rw [if_neg h]
    constructor
    · exact .inr
    · rintro (h' | h')
      · exact absurd h'.symm h
      · exact h'

/-- one more is done -/
theorem DInv.step (hM : okM ops M = true) (hu : uniq ops = true) (hI : DInv ops n D F0 VL effs done listed a) {i : Nat} {o : Oper} (hi : i ∈ Region.ready .any ops listed) (ho : ops[i]? = some o) {v : Value} {VL' : List (Nat × Value)} {done' : List Nat}
    (hv : lk VL' i = some v) (hVL : ∀ p, Lsd listed p → ∀ u, lk VL p = some u → lk VL' p = some u) (hdone : ∀ e ∈ effs, (e = i ∨ e ∈ done) ↔ e ∈ done') : DInv ops n D F0 VL' effs done' (listed.setIfInBounds i true) (a.put o.dst v) := by
  obtain ⟨h1, h2, h3⟩ := ready_spec hi
  have hil : i < listed.size := by rw [hI.lsize]; exact h1
  have hput : ∀ t', (a.put o.dst v).tmps[t']? = if o.dst = some t' ∧ t' < n then some v else a.tmps[t']? := by
    intro t'
    cases hd : o.dst with
    | none => simp [Act.put]
    | some t =>
      simp only [Act.put, Array.getElem?_setIfInBounds, hI.size]
      by_cases e : t = t'
      · subst e
        have := hI.tmps i o t ho hd
        simp [this]
      · rw [if_neg e, if_neg (fun h => e (Option.some.inj h.1))]
  refine ⟨by simp [hI.lsize], ?_, ?_, ?_, ?_, ?_, ?_, ?_, hI.tmps⟩
  · cases o.dst <;> simp [Act.put, hI.size]
  · cases o.dst <;> exact hI.defers
  · intro p o' e ho' hl he hb
    rw [Lsd_set hil] at hl ⊢
    rcases hl with rfl | hl
    · exact .inr (h3 o' ho' e he hb)
    · exact .inr (hI.closed p o' e ho' hl he hb)
  · intro t u hu' hno
    rw [hput]
    by_cases hd : o.dst = some t
    · exact absurd ((Lsd_set hil).2 (.inl rfl)) (hno i (by rw [ho]; exact hd))
    · rw [if_neg (fun h => hd h.1)]
      exact hI.old t u hu' fun p hp hl => hno p hp ((Lsd_set hil).2 (.inr hl))
  · intro p o' t ho' hd hl
    rw [Lsd_set hil] at hl
    rw [hput]
    by_cases e : p = i
    · subst e
      rw [ho] at ho'
      cases ho'
      exact ⟨v, hv, by rw [if_pos ⟨hd, hI.tmps _ _ _ ho hd⟩]⟩
    · have hl' := hl.resolve_left e
      obtain ⟨u, hu', hat⟩ := hI.new p o' t ho' hd hl'
      refine ⟨u, hVL p hl' u hu', ?_⟩
      rw [if_neg, hat]
      rintro ⟨hd', _⟩
      have e1 := wr_uniq hu (p := p) (t := t) (by rw [ho']; exact hd)
      have e2 := wr_uniq hu (p := i) (t := t) (by rw [ho]; exact hd')
      rw [e1] at e2
      cases e2
      exact e rfl
  · intro p hl
    rw [Lsd_set hil] at hl
    rcases hl with rfl | hl
    · exact ⟨v, hv⟩
    · obtain ⟨u, hu'⟩ := hI.keyed p hl
      exact ⟨u, hVL p hl u hu'⟩
  · intro e he
    rw [Lsd_set hil, hI.eff e he]
    exact hdone e he

theorem ready_nil (hM : okM ops M = true) (hI : DInv ops n D F0 VL effs done listed a) (h : Region.ready .any ops listed = []) : ∀ i, i < ops.size → Lsd listed i := by
  intro i
  induction i using Nat.strongRecOn with
  | _ i ih =>
    intro hi
    apply Classical.byContradiction
    intro hn
    have hmem : i ∈ Region.ready .any ops listed := by
      unfold Region.ready
      rw [List.mem_filter, List.mem_range, Bool.and_eq_true]
      have ho : ops[i]? = some ops[i] := Array.getElem?_eq_getElem hi
      refine ⟨hi, ?_, ?_⟩
      · have hil : i < listed.size := by rw [hI.lsize]; exact hi
        unfold Lsd at hn
        rw [Array.getD_eq_getD_getElem?, Array.getElem?_eq_getElem hil] at hn ⊢
        simpa using hn
      · rw [ho]
        simp only [Option.map_some, Option.getD_some]
        rw [Array.all_eq_true_iff_forall_mem]
        intro e he
        cases hb : Region.binds .any e with
        | false => rfl
        | true =>
          have := ih e.on ((okM_at hM ho).2 e (Array.mem_toList_iff.2 he) hb) (by have := (okM_at hM ho).2 e (Array.mem_toList_iff.2 he) hb; omega)
          simpa [Lsd] using this
    rw [h] at hmem
    cases hmem

def left_ (listed : Array Bool) : Nat := (listed.toList.filter (!·)).length

theorem left_set : ∀ (l : List Bool) (i : Nat), l[i]? = some false → ((l.set i true).filter (!·)).length + 1 = (l.filter (!·)).length
  | [], i, h => by simp at h
  | b :: l, 0, h => by simp at h; subst h; simp
  | b :: l, i + 1, h => by
    have ih := left_set l i (by simpa using h)
    rw [List.set_cons_succ, List.filter_cons, List.filter_cons]
    cases b
    · simp only [Bool.not_false, if_true, List.length_cons]; omega
    · simp only [Bool.not_true, Bool.false_eq_true, if_false]; exact ih

theorem draw_any (hM : okM ops M = true) (hu : uniq ops = true) (hEs : effs.all (fun e => Nat.blt e ops.size) = true) : ∀ (fuel m : Nat) (done : List Nat) (VL : List (Nat × Value)) (listed : Array Bool) (a : Act) (w : World), left_ listed = fuel →
    DInv ops n D F0 VL effs done listed a → DrawOk P ops Q n D M F0 effs m done VL w → wpAny P .any ops Q fuel listed a w := by
  intro fuel
  induction fuel with
  | zero =>
    intro m done VL listed a w hf hI hD
    have hall : ∀ i, i < ops.size → Lsd listed i := by
      intro i hi
      have hil : i < listed.size := by rw [hI.lsize]; exact hi
      unfold left_ at hf
      have h0 := List.eq_nil_of_length_eq_zero hf
      rw [List.filter_eq_nil_iff] at h0
      have := h0 listed[i] (by simp)
      unfold Lsd
      rw [Array.getD_eq_getD_getElem?, Array.getElem?_eq_getElem hil]
      simpa using this
    have hr : Region.ready .any ops listed = [] := by
      rw [List.eq_nil_iff_forall_not_mem]
      intro i hi
      obtain ⟨h1, h2, _⟩ := ready_spec hi
      exact not_Lsd h2 (hall i h1)
    refine ⟨hr, ?_⟩
    cases m with
    | zero =>
      obtain ⟨_, _, Ff, hFf, hQ⟩ := hD
      refine hQ a ⟨hI.size, hI.defers, fun t v hv => ?_⟩
      have hs : srcF ops F0 VL t = some v := by
        clear hQ
        induction Ff with
        | nil => cases hv
        | cons q r ih =>
          obtain ⟨k, u⟩ := q
          simp only [List.map_cons, List.cons.injEq] at hFf
          simp only [lk] at hv
          by_cases e : Nat.beq k t = true
          · rw [e] at hv
            have e' := Nat.eq_of_beq_eq_true e
            subst e'
            cases hv
            exact hFf.1
          · rw [Bool.eq_false_iff.2 e] at hv
            exact ih hFf.2 hv
      unfold srcF at hs
      cases hw : wr ops t with
      | none => rw [hw] at hs; exact hI.old t v hs fun q hq => absurd hq (wr_none hw)
      | some q =>
        rw [hw] at hs
        obtain ⟨hq, hql⟩ := wr_some hw
        have ho : ops[q]? = some ops[q] := Array.getElem?_eq_getElem hql
        rw [ho] at hq
        obtain ⟨v', hv', hat⟩ := hI.new q _ t ho hq (hall q hql)
        rw [show lk VL q = some v from hs] at hv'
        cases hv'
        exact hat
    | succ m =>
      obtain ⟨_, hne, _⟩ := hD
      exfalso
      rw [← Bool.not_eq_true, List.all_eq_true] at hne
      refine hne fun e he => ?_
      have hel : e < ops.size := by
        have := Nat.le_of_ble_eq_true ((List.all_eq_true.1 hEs) e he)
        omega
      have := (hI.eff e he).1 (hall e hel)
      exact List.contains_iff_mem.2 this
  | succ fuel ih =>
    intro m done VL listed a w hf hI hD
    refine ⟨fun hr => ?_, fun i hi => ?_⟩
    · exfalso
      have hall := ready_nil hM hI hr
      unfold left_ at hf
      have h0 : listed.toList.filter (!·) = [] := by
        rw [List.filter_eq_nil_iff]
        intro b hb
        obtain ⟨i, hi, rfl⟩ := List.mem_iff_getElem.1 hb
        have hi' : i < listed.size := by simpa using hi
        have := hall i (by rw [← hI.lsize]; exact hi')
        unfold Lsd at this
        rw [Array.getD_eq_getD_getElem?, Array.getElem?_eq_getElem hi'] at this
        simpa using this
      rw [h0] at hf
      cases hf
    · obtain ⟨h1, h2, h3⟩ := ready_spec hi
      have hil : i < listed.size := by rw [hI.lsize]; exact h1
      have ho : ops[i]? = some ops[i] := Array.getElem?_eq_getElem h1
      have hleft : left_ (listed.setIfInBounds i true) = fuel := by
        have := left_set listed.toList i (by
          rw [Array.getElem?_toList, Array.getElem?_eq_getElem hil]
          rw [Array.getD_eq_getD_getElem?, Array.getElem?_eq_getElem hil] at h2
          simpa using h2)
        unfold left_ at hf ⊢
        rw [Array.toList_setIfInBounds]
        omega
      by_cases he : i ∈ effs
      · -- an effect
        have hnd : i ∉ done := fun h => not_Lsd h2 ((hI.eff i he).2 h)
        cases m with
        | zero =>
          obtain ⟨_, ⟨_, hall⟩, _⟩ := hD
          exact absurd (by simpa using (List.all_eq_true.1 hall) i he) hnd
        | succ m =>
          obtain ⟨_, _, hE⟩ := hD
          have hc : i ∈ candE ops M effs done := by
            unfold candE
            rw [List.mem_filter]
            refine ⟨he, ?_⟩
            simp only [Bool.and_eq_true, List.all_eq_true]
            refine ⟨by simpa using hnd, fun e he' => ?_⟩
            cases hb : bef M i e with
            | false => rfl
            | true =>
              have := (hI.eff e he').1 (hI.ready_anc hM hi hb)
              simpa using this
          obtain ⟨o, E, ho', hEE, hrun⟩ := hE.mem hc
          rw [ho] at ho'
          cases ho'
          have hEV := hI.ev hM hu hi hEE
          have hr := hrun a hEV
          unfold wpOp
          rw [ho]
          dsimp only
          have hlk : ∀ (NV : List (Nat × Value)) (v : Value), NV.all (fun q => (lk ((i, v) :: VL) q.1).isNone) = true → ∀ p u, lk ((i, v) :: VL) p = some u → lk (NV ++ (i, v) :: VL) p = some u := by
            intro NV v hNV p u hp
            induction NV with
            | nil => exact hp
            | cons q r ih' =>
              simp only [List.all_cons, Bool.and_eq_true] at hNV
              simp only [List.cons_append, lk]
              cases hb : Nat.beq q.1 p with
              | false => exact ih' hNV.2
              | true =>
                have e' := Nat.eq_of_beq_eq_true hb
                rw [e', hp] at hNV
                exact absurd hNV.1 (by simp)
          have hlk0 : ∀ (v : Value) p, Lsd listed p → ∀ u, lk VL p = some u → lk ((i, v) :: VL) p = some u := by
            intro v p hl u hp
            simp only [lk]
            cases hb : Nat.beq i p with
            | false => exact hp
            | true =>
              have e' := Nat.eq_of_beq_eq_true hb
              subst e'
              exact absurd hl (not_Lsd h2)
          have hi0 : ∀ v : Value, lk ((i, v) :: VL) i = some v := fun v => by simp [lk]
          split
          · rename_i hw
            rw [if_pos hw] at hr
            refine .inl (Oper.wp_mono (fun a' w' hk => ?_) hr)
            obtain ⟨v, NV, rfl, hNV, hD'⟩ := hk
            exact ih m _ _ _ _ _ hleft (hI.step hM hu hi ho (hlk NV v hNV _ _ (hi0 v)) (fun p hl u hp => hlk NV v hNV _ _ (hlk0 v p hl u hp)) (fun e _ => by simp)) hD'
          · rename_i hw
            rw [if_neg hw] at hr
            obtain ⟨NV, hNV, hD'⟩ := hr
            exact ih m _ _ _ _ _ hleft (hI.step hM hu hi ho (hlk NV undef hNV _ _ (hi0 undef)) (fun p hl u hp => hlk NV undef hNV _ _ (hlk0 undef p hl u hp)) (fun e _ => by simp)) hD'
      · -- a value alone
        have hP : AllP (PureOk P ops n D M F0 VL w) (candP ops M effs done) := by cases m <;> exact hD.1
        have hc : i ∈ candP ops M effs done := by
          unfold candP
          rw [List.mem_filter]
          refine ⟨by simpa using h1, ?_⟩
          simp only [Bool.and_eq_true, List.all_eq_true]
          refine ⟨by simpa using he, fun e he' => ⟨?_, ?_⟩⟩
          · cases hb : bef M i e with
            | false => rfl
            | true => simpa using (hI.eff e he').1 (hI.ready_anc hM hi hb)
          · cases hb : bef M e i with
            | false => rfl
            | true =>
              by_cases hd : e ∈ done
              · have hl := (hI.eff e he').2 hd
                have hes : e < ops.size := by
                  unfold Lsd at hl
                  rcases Nat.lt_or_ge e listed.size with h | h
                  · rw [← hI.lsize]; exact h
                  · rw [Array.getD_eq_getD_getElem?, Array.getElem?_eq_none h] at hl; cases hl
                exact absurd (hI.anc hM e i hl hes hb) (not_Lsd h2)
              · simpa using hd
        obtain ⟨o, v, E, ho', hv, hEE, hrun⟩ := hP.mem hc
        rw [ho] at ho'
        cases ho'
        have hEV := hI.ev hM hu hi hEE
        have hr := hrun a hEV
        have hI' := hI.step hM hu hi ho hv (fun p _ u h => h) (done' := done) (fun e he' => ⟨fun h => h.resolve_left (fun h => he (h ▸ he')), .inr⟩)
        unfold wpOp
        rw [ho]
        dsimp only
        unfold Runs at hr
        split
        · rename_i hw
          rw [if_pos hw] at hr
          exact .inl (RunV.wp hr (ih m _ _ _ _ _ hleft hI' hD))
        · rename_i hw
          rw [if_neg hw] at hr
          subst hr
          exact ih m _ _ _ _ _ hleft hI' hD

theorem wp_draw {id : Nat} {F : List (Nat × Value)} {r : World} {L : List HP} (M effs : List Nat) (hm : P.follows .mixedOrders = true) (hA : FR n D a F) (hS : SH r L w)
    (hM : okM ops M = true) (hu : uniq ops = true) (hEs : effs.all (fun e => Nat.blt e ops.size) = true) (ht : ((List.range ops.size).all fun p => match (ops[p]?).bind (fun o : Oper => o.dst) with | none => true | some t => Nat.blt t n) = true)
    (h : ∀ w', SH r L w' → ∃ VL, DrawOk P ops Q n D M F effs effs.length [] VL w') : (Code.region id ops true).wp P Q a w := by
  refine wp_region_any hm ?_
  obtain ⟨VL, h⟩ := h _ hS.drew
  refine draw_any (n := n) (D := D) (F0 := F) (effs := effs) hM hu hEs ops.size effs.length [] VL (Array.replicate ops.size false) a w.drew ?_ ?_ h
  · unfold left_
    rw [Array.toList_replicate, List.filter_eq_self.2 (by intro b hb; rw [List.mem_replicate] at hb; rw [hb.2]; rfl)]
    simp
  · have hno : ∀ p, ¬ Lsd (Array.replicate ops.size false) p := by
      intro p hp
      unfold Lsd at hp
      rw [Array.getD_eq_getD_getElem?, Array.getElem?_replicate] at hp
      split at hp <;> cases hp
    refine ⟨by simp, hA.size, hA.defers, fun p o e _ hl => absurd hl (hno p), fun t v hv _ => hA.at_ t v hv, fun p o t _ _ hl => absurd hl (hno p), fun p hl => absurd hl (hno p), fun e _ => ⟨fun hl => absurd hl (hno e), fun h => by cases h⟩, fun p o t ho hd => ?_⟩
    have hp : p < ops.size := (Array.getElem?_eq_some_iff.1 ho).1
    have := (List.all_eq_true.1 ht) p (by simpa using hp)
    rw [ho] at this
    simp only [Option.bind_some, hd] at this
    have := Nat.le_of_ble_eq_true this
    omega

/-! how the parts of it are shown -/
theorem pu {p : Nat} {o : Oper} {v : Value} (ho : ops[p]? = some o) (hv : lk VL p = some v) (E : List (Nat × Value)) (h : ∀ a, FR n D a E → RunV P o a w v) (hg : o.guard = none := by rfl) (hE : E.map (fun q => src ops M F0 VL p q.1) = E.map (fun q => some q.2) := by rfl) : PureOk P ops n D M F0 VL w p :=
  ⟨o, v, E, ho, hv, hE, fun a he => by unfold Runs; rw [if_pos (by simp [Region.wanted, hg])]; exact h a he⟩
theorem puOn {p j t : Nat} {b b' : Bool} {o : Oper} {v : Value} (ho : ops[p]? = some o) (hv : lk VL p = some v) (hg : o.guard = some (j, b)) (hj : (ops[j]?).bind (·.dst) = some t) (E : List (Nat × Value)) (hE0 : lk E t = some (.bool b')) (hb : b' = b) (h : ∀ a, FR n D a E → RunV P o a w v) (hE : E.map (fun q => src ops M F0 VL p q.1) = E.map (fun q => some q.2) := by rfl) : PureOk P ops n D M F0 VL w p :=
  ⟨o, v, E, ho, hv, hE, fun a he => by
    have hy := yielded_of (ops := ops) hj (he.at_ t _ hE0)
    unfold Runs
    rw [if_pos (by subst hb; simp [Region.wanted, hg, hy])]
    exact h a he⟩
theorem puOff {p j t : Nat} {b b' : Bool} {o : Oper} (ho : ops[p]? = some o) (hv : lk VL p = some undef) (hg : o.guard = some (j, b)) (hj : (ops[j]?).bind (·.dst) = some t) (E : List (Nat × Value)) (hE0 : lk E t = some (.bool b')) (hb : b' = !b) (hE : E.map (fun q => src ops M F0 VL p q.1) = E.map (fun q => some q.2) := by rfl) : PureOk P ops n D M F0 VL w p :=
  ⟨o, undef, E, ho, hv, hE, fun a he => by
    have hy := yielded_of (ops := ops) hj (he.at_ t _ hE0)
    unfold Runs
    rw [if_neg (by subst hb; cases b <;> simp [Region.wanted, hg, hy])]⟩
theorem dEnd {VL : List (Nat × Value)} (ps : List Nat) (hp : candP ops M effs done = ps) (h : AllP (PureOk P ops n D M F0 VL w) ps) (he : candE ops M effs done = [] ∧ effs.all (done.contains ·) = true) (Ff : List (Nat × Value)) (hF : Ff.map (fun q => srcF ops F0 VL q.1) = Ff.map (fun q => some q.2)) (hQ : ∀ a, FR n D a Ff → Q .normal a w) :
    DrawOk P ops Q n D M F0 effs 0 done VL w := ⟨hp ▸ h, he, Ff, hF, hQ⟩
def EffOk (P : Program) (ops : Array Oper) (Q : Exit → Act → World → Prop) (n : Nat) (D : List Deferred) (M : List Nat) (F0 : List (Nat × Value)) (effs : List Nat) (m : Nat) (done : List Nat) (VL : List (Nat × Value)) (w : World) (e : Nat) : Prop :=
  ∃ (o : Oper) (E : List (Nat × Value)), ops[e]? = some o ∧ E.map (fun q => src ops M F0 VL e q.1) = E.map (fun q => some q.2) ∧ ∀ a, FR n D a E →
    if Region.wanted o (yielded ops a.tmps) = true then o.wp P a w (fun a' w' => ∃ v NV, a' = a.put o.dst v ∧ NV.all (fun q => (lk ((e, v) :: VL) q.1).isNone) = true ∧ DrawOk P ops Q n D M F0 effs m (e :: done) (NV ++ (e, v) :: VL) w') Q
    else ∃ NV : List (Nat × Value), NV.all (fun q => (lk ((e, undef) :: VL) q.1).isNone) = true ∧ DrawOk P ops Q n D M F0 effs m (e :: done) (NV ++ (e, undef) :: VL) w
theorem dEff {m : Nat} {VL : List (Nat × Value)} (ps es : List Nat) (hp : candP ops M effs done = ps) (h : AllP (PureOk P ops n D M F0 VL w) ps) (he : candE ops M effs done = es) (hn : effs.all (done.contains ·) = false) (hE : AllP (EffOk P ops Q n D M F0 effs m done VL w) es) :
    DrawOk P ops Q n D M F0 effs (m + 1) done VL w := ⟨hp ▸ h, hn, he ▸ hE⟩
/-- an effect that is wanted: it gives a value, and the rest stands behind it -/
theorem ef {m e : Nat} {o : Oper} {VL : List (Nat × Value)} (ho : ops[e]? = some o) (E : List (Nat × Value))
    (h : ∀ a, FR n D a E → ∀ K : Act → World → Prop, (∀ v NV w', NV.all (fun q => (lk ((e, v) :: VL) q.1).isNone) = true → DrawOk P ops Q n D M F0 effs m (e :: done) (NV ++ (e, v) :: VL) w' → K (a.put o.dst v) w') → o.wp P a w K Q)
    (hg : o.guard = none := by rfl) (hE : E.map (fun q => src ops M F0 VL e q.1) = E.map (fun q => some q.2) := by rfl) : EffOk P ops Q n D M F0 effs m done VL w e :=
  ⟨o, E, ho, hE, fun a he => by rw [if_pos (by simp [Region.wanted, hg])]; exact h a he _ fun v NV w' h1 h2 => ⟨v, NV, rfl, h1, h2⟩⟩
theorem efOn {m e j t : Nat} {b b' : Bool} {o : Oper} {VL : List (Nat × Value)} (ho : ops[e]? = some o) (hg : o.guard = some (j, b)) (hj : (ops[j]?).bind (·.dst) = some t) (E : List (Nat × Value)) (hE0 : lk E t = some (.bool b')) (hb : b' = b)
    (h : ∀ a, FR n D a E → ∀ K : Act → World → Prop, (∀ v NV w', NV.all (fun q => (lk ((e, v) :: VL) q.1).isNone) = true → DrawOk P ops Q n D M F0 effs m (e :: done) (NV ++ (e, v) :: VL) w' → K (a.put o.dst v) w') → o.wp P a w K Q)
    (hE : E.map (fun q => src ops M F0 VL e q.1) = E.map (fun q => some q.2) := by rfl) : EffOk P ops Q n D M F0 effs m done VL w e :=
  ⟨o, E, ho, hE, fun a he => by
    have hy := yielded_of (ops := ops) hj (he.at_ t _ hE0)
    rw [if_pos (by subst hb; simp [Region.wanted, hg, hy])]
    exact h a he _ fun v NV w' h1 h2 => ⟨v, NV, rfl, h1, h2⟩⟩
theorem efOff {m e j t : Nat} {b b' : Bool} {o : Oper} {VL : List (Nat × Value)} (ho : ops[e]? = some o) (hg : o.guard = some (j, b)) (hj : (ops[j]?).bind (·.dst) = some t) (E : List (Nat × Value)) (hE0 : lk E t = some (.bool b')) (NV : List (Nat × Value)) (hb : b' = !b) (hNV : NV.all (fun q => (lk ((e, undef) :: VL) q.1).isNone) = true) (h : DrawOk P ops Q n D M F0 effs m (e :: done) (NV ++ (e, undef) :: VL) w)
    (hE : E.map (fun q => src ops M F0 VL e q.1) = E.map (fun q => some q.2) := by rfl) : EffOk P ops Q n D M F0 effs m done VL w e :=
  ⟨o, E, ho, hE, fun a he => by
    have hy := yielded_of (ops := ops) hj (he.at_ t _ hE0)
    rw [if_neg (by subst hb; cases b <;> simp [Region.wanted, hg, hy])]
    exact ⟨NV, hNV, h⟩⟩
end
#print axioms wp_draw
end Go.Proofs.Ytgjhiojkkjaloaa.E
