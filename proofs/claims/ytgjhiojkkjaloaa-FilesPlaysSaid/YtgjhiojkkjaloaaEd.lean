/- The engine's steps that turn memory: new blocks, stores, append, make, calls. -/
import Derived.Test.YtgjhiojkkjaloaaEc
namespace Go.Proofs.Ytgjhiojkkjaloaa.E
open Go Go.RowKit
set_option linter.unusedVariables false
set_option linter.unusedSimpArgs false

section
variable {P : Program} {ops : Array Oper} {Q : Exit → Act → World → Prop} {rest : List Oper} {o : Oper} {a : Act} {w w' : World} {K : Act → World → Prop}
  {n : Nat} {D : List Deferred} {F : List (Nat × Value)} {r : World} {L : List HP} {α : Type} {d : Kd α} {x y : Operand} {t e T : TypeId} {v : Value}

theorem SH.new (h : SH r L w) (ho : w'.os = w.os) (ht : w'.tape = w.tape) (hp : w'.output = w.output) (hs : w.heap.size ≤ w'.heap.size)
    (hk : ∀ k, k < w.heap.size → w'.heap[k]? = w.heap[k]?) {Ls : List HP} (hB : ∀ S : Nat → Prop, (∀ k, w.heap.size ≤ k → k < w'.heap.size → S k) → Sep Ls w' S) : SH r (Ls ++ L) w' := by
  have h0 : SH r (pure' True :: L) w := ⟨h.os, h.tape, h.output, fun _ => False, _, fun _ h => h.elim, fun _ h => h, fun _ h => h.elim, trivial, h.sep⟩
  exact h0.upd (S1 := fun _ => False) (fun _ h => h.elim) (fun _ h => h) (fun _ h => h.elim) h.sep ho ht hp hs (fun k hk' _ => hk k hk') fun S _ hS _ => hB S hS

theorem SH.alloc (h : SH r L w) (T : TypeId) (cs : List Value) : SH r (blk w.heap.size T cs :: L) (w.alloc (.cells cs.toArray T)) :=
  h.new (w' := w.alloc (.cells cs.toArray T)) rfl rfl rfl (by simp) (fun k hk => Below.heap_alloc _ _ _ hk) (Ls := [blk w.heap.size T cs]) fun S hS =>
    ⟨S, fun _ => False, fun _ h => h, fun _ h => h.elim, fun _ _ h => h, ⟨hS _ (Nat.le_refl _) (by simp), heap_alloc_new w _⟩, trivial⟩

/-! new blocks -/
theorem e_box {cs : List Value} (hS : SH r L w) (ho : o.op = .box T x) (hx : a.eval x = v) (hcs : v.cells = cs.toArray)
    (hK : ∀ g w', SH r (blk g T cs :: L) w' → K (a.put o.dst (.pointer (some ⟨g, 0, none⟩))) w') : o.wp P a w K Q := by
  have h : (execOp a.eval o).run P w = .ok (.value (.pointer (some ⟨w.heap.size, 0, none⟩))) (w.alloc (.cells cs.toArray T)) := by
    unfold execOp; rw [ho]
    simp [Instr.box, newVar, newRow, hx, hcs]
  unfold Oper.wp
  rw [h]
  exact hK _ _ (hS.alloc T cs)

theorem e_alloc {cs : List Value} {z : Value} (hS : SH r L w) (ho : o.op = .alloc T) (hz : (P.info? T).bind (·.zero) = some z) (hcs : z.cells = cs.toArray)
    (hK : ∀ g w', SH r (blk g T cs :: L) w' → K (a.put o.dst (.pointer (some ⟨g, 0, none⟩))) w') : o.wp P a w K Q := by
  obtain ⟨i, hi1, hi2⟩ := Option.bind_eq_some_iff.1 hz
  have h : (execOp a.eval o).run P w = .ok (.value (.pointer (some ⟨w.heap.size, 0, none⟩))) (w.alloc (.cells cs.toArray T)) := by
    unfold execOp; rw [ho]
    simp [Instr.alloc, newVar, newRow, zeroValue, typeInfo, hi1, hi2, hcs]
  unfold Oper.wp
  rw [h]
  exact hK _ _ (hS.alloc T cs)

theorem own_new {w : World} {g m c : Nat} {xs : List α} {cur : Array Value} {S : Nat → Prop} (hg : w.heap[g]? = some (.cells cur e (0, 0))) (hS : S g) (hn : xs.length = m) (hc : xs.length ≤ c) (hm : c ≤ maxLen) (hs : cur.size = c * d.sz)
    (hL : Lay d xs (cur.toList.take (xs.length * d.sz))) : (own d e (some ⟨g, 0, none⟩) m c xs).P w S :=
  ⟨hn, ⟨_, hL, hL.length, .inr ⟨g, c, cur, rfl, Nat.zero_le _, hg, hc, hm, hs, rfl⟩⟩, fun g' hg' => by cases hg'; exact hS⟩

/-- a slice that is written out -/
theorem e_buildSlice {m : Nat} {parts : Array (Nat × Operand)} {ps : Array (Nat × Value)} {cells : List Value} {xs : List α} (hS : SH r L w) (ho : o.op = .buildSlice t m parts) (hx : parts.map (fun (i, x) => (i, a.eval x)) = ps)
    (hr : ∀ w : World, (Instr.buildSlice t m ps).run P w = .ok (.slice (some ⟨w.heap.size, 0, none⟩) m m) (w.alloc (.cells cells.toArray e))) (hm : xs.length = m) (hmx : m ≤ maxLen) (hL : Lay d xs cells)
    (hK : ∀ g w', SH r (own d e (some ⟨g, 0, none⟩) m m xs :: L) w' → K (a.put o.dst (.slice (some ⟨g, 0, none⟩) m m)) w') : o.wp P a w K Q := by
  have h : (execOp a.eval o).run P w = .ok (.value (.slice (some ⟨w.heap.size, 0, none⟩) m m)) (w.alloc (.cells cells.toArray e)) := by
    unfold execOp; rw [ho]
    have h := hr w
    simp only [hx, Sem.run_bind, h]
    rfl
  unfold Oper.wp
  rw [h]
  refine hK _ _ (hS.new (w' := w.alloc (.cells cells.toArray e)) rfl rfl rfl (by simp) (fun k hk => Below.heap_alloc _ _ _ hk) (Ls := [own d e (some ⟨w.heap.size, 0, none⟩) m m xs]) fun S hS' =>
    ⟨S, fun _ => False, fun _ h => h, fun _ h => h.elim, fun _ _ h => h, ?_, trivial⟩)
  have hl := hL.length
  refine own_new (heap_alloc_new w _) (hS' _ (Nat.le_refl _) (by simp)) hm (by omega) hmx (by simp [hl, hm]) ?_
  simp only [hm] at hl ⊢
  rw [List.take_of_length_le (by simp [hl])]
  exact hL

theorem flatten_replicate_get (z : List Value) : ∀ (k i : Nat), i < k * z.length → (List.replicate k z).flatten[i]? = z[i % z.length]?
  | 0, i, h => by simp at h
  | k + 1, i, h => by
    rw [List.replicate_succ, List.flatten_cons]
    rcases Nat.lt_or_ge i z.length with hi | hi
    · rw [List.getElem?_append_left hi, Nat.mod_eq_of_lt hi]
    · rw [List.getElem?_append_right hi, flatten_replicate_get z k (i - z.length) (by rw [Nat.add_mul] at h; omega), ← Nat.mod_eq_sub_mod hi]

theorem madeCells_toList (z : Array Value) (k : Nat) : (madeCells z (k * z.size)).toList = (List.replicate k z.toList).flatten := by
  apply List.ext_getElem?
  intro i
  rcases Nat.lt_or_ge i (k * z.size) with hi | hi
  · have hz : 0 < z.size := Nat.pos_of_ne_zero fun h => by rw [h] at hi; omega
    have hm : i % z.size < z.size := Nat.mod_lt _ hz
    rw [flatten_replicate_get _ _ _ (by simpa using hi)]
    simp [madeCells, hi, hm]
  · rw [List.getElem?_eq_none (by simp [size_madeCells, hi]), List.getElem?_eq_none (by simp [List.length_flatten, hi])]

/-- make: noughts -/
theorem e_makeSlice {l : Operand} {kl : IntKind} {m : Int} {z : Value} {bytes : Nat} {z0 : α} (hS : SH r L w) (ht : P.underlying t = some (.slice e)) (hi : (P.info? e).map (fun i => (i.zero, i.size, i.bytes)) = some (some z, d.sz, bytes))
    (ho : o.op = .makeSlice t l l) (hl : a.eval l = .int kl m) (hz : d.V z0 z.cells.toList) (h0 : 0 ≤ m) (hb : (bytes : Int) * m ≤ 140737488355328) (hsz : 0 < bytes)
    (hK : ∀ g w', SH r (own d e (some ⟨g, 0, none⟩) m.toNat m.toNat (List.replicate m.toNat z0) :: L) w' → K (a.put o.dst (.slice (some ⟨g, 0, none⟩) m.toNat m.toNat)) w') : o.wp P a w K Q := by
  obtain ⟨i, hi1, hi2, hi3, hi4⟩ := info_parts hi
  have hm : m ≤ 140737488355328 := by
    have : 1 * m ≤ (bytes : Int) * m := Int.mul_le_mul_of_nonneg_right (by omega) h0
    omega
  have hrun := run_make (P := P) w t e i z ht hi1 hi2 kl kl m m h0 (Int.le_refl _) (by rw [hi4]; omega) (by omega)
  have h : (execOp a.eval o).run P w = .ok (.value (.slice (some ⟨w.heap.size, 0, none⟩) m.toNat m.toNat)) (w.alloc (.cells (madeCells z.cells (m.toNat * i.size)) e)) := by
    unfold execOp; rw [ho]
    simp only [hl, Sem.run_bind, hrun]
    rfl
  unfold Oper.wp
  rw [h]
  have hzs : z.cells.size = d.sz := by simpa using d.len hz
  refine hK _ _ (hS.new (w' := w.alloc (.cells (madeCells z.cells (m.toNat * i.size)) e)) rfl rfl rfl (by simp) (fun k hk => Below.heap_alloc _ _ _ hk) (Ls := [own d e (some ⟨w.heap.size, 0, none⟩) m.toNat m.toNat (List.replicate m.toNat z0)]) fun S hS' =>
    ⟨S, fun _ => False, fun _ h => h, fun _ h => h.elim, fun _ _ h => h, ?_, trivial⟩)
  have hL : Lay d (List.replicate m.toNat z0) (madeCells z.cells (m.toNat * i.size)).toList := by
    rw [hi3, ← hzs, madeCells_toList]
    generalize m.toNat = k
    induction k with
    | zero => rfl
    | succ k ih => exact ⟨_, _, rfl, hz, ih⟩
  have hl' := hL.length
  refine own_new (heap_alloc_new w _) (hS' _ (Nat.le_refl _) (by simp)) (by simp) (by simp) (by simp only [maxLen]; omega) (by simp at hl'; simp [hl']) ?_
  rw [List.take_of_length_le (by rw [hl']; exact Nat.le_refl _)]
  exact hL

/-! append onto a row of the call's own -/
theorem run_append_nil (base : Nat) (ty : TypeId) (i : TypeInfo) (size : Nat) (ht : P.underlying t = some (.slice e)) (hi : P.info? e = some i)
    (v : Value) (m : Nat) (xs : List Value) (hown : w.ownsRow base e size v m xs) (c : Nat) : (Builtin.append_ #[t, t] ty #[v, .slice none 0 c]).run P w = .ok v w := by
  rcases hown.2 with ⟨rfl, rfl⟩ | ⟨g, cap, cur, rfl, _, _, hnc, _⟩
  · simp [Builtin.append_, run_underlying ht, sizeOf, typeInfo, hi, Builtin.lenOf, Builtin.firstCells]
  · simp [Builtin.append_, run_underlying ht, sizeOf, typeInfo, hi, Builtin.lenOf, Builtin.firstCells, hnc, storeCells]

theorem e_append (i : Nat) {z : Value} {bytes n1 c n2 c2 : Nat} {A A2 : Option Addr} {xs ys : List α} {L' : List HP} (hS : SH r L w) (hL : pk i L = own d e A n1 c xs :: L')
    (ht : P.underlying t = some (.slice e)) (hi : (P.info? e).map (fun i => (i.zero, i.size, i.bytes)) = some (some z, d.sz, bytes)) (hz : z.cells.size = d.sz) (hsz : 0 < d.sz)
    (ho : o.op = .call { callee := .builtin .append, args := #[x, y], argTypes := #[t, t] }) (hx : a.eval x = .slice A n1 c) (hy : a.eval y = .slice A2 n2 c2) (hr : Rd d w A2 ys) (hn2 : ys.length = n2)
    (hm : xs.length + ys.length ≤ maxLen) (hb : (xs.length + ys.length) * bytes ≤ 140737488355328)
    (hK : ∀ A' n' c' w', SH r (own d e A' n' c' (xs ++ ys) :: L') w' → K (a.put o.dst (.slice A' n' c')) w') : o.wp P a w K Q := by
  subst hn2
  have hS' := hS.pk i
  rw [hL] at hS'
  obtain ⟨S1, S2, h1, h2, hd, ⟨hn1, ⟨inner, hLay, hown⟩, hSo⟩, hsep⟩ := hS'.sep
  subst hn1
  obtain ⟨inf, hi1, hi2, hi3, hi4⟩ := info_parts hi
  have key : ∃ v' w', (Builtin.append_ #[t, t] o.type #[.slice A xs.length c, .slice A2 ys.length c2]).run P w = .ok v' w' ∧ (∃ news, Lay d ys news ∧ w'.ownsRow 0 e d.sz v' (xs.length + ys.length) (inner ++ news)) ∧
      w.grownBy w' (Value.slice A xs.length c).ownBlock ∧ (v'.ownBlock = (Value.slice A xs.length c).ownBlock ∨ v'.ownBlock = some w.heap.size) := by
    rcases A2 with _ | ad
    · have hy0 : ys = [] := by
        rcases Nat.eq_zero_or_pos ys.length with h | h
        · exact List.eq_nil_of_length_eq_zero h
        · obtain ⟨ad, h', _⟩ := hr h; cases h'
      subst hy0
      exact ⟨_, w, run_append_nil 0 o.type inf d.sz ht hi1 _ _ inner hown c2, ⟨[], rfl, by simpa using hown⟩, World.grownBy.refl w _, .inl rfl⟩
    · rcases Nat.eq_zero_or_pos ys.length with h0 | hpos
      · have hy0 := List.eq_nil_of_length_eq_zero h0
        subst hy0
        obtain ⟨v', w', hrun, h2, h3, _, h5⟩ := run_append_own_at (P := P) w 0 t o.type e inf z d.sz bytes ht hi1 hi2 hi3 hi4 hz hsz _ _ _ hown ad 0 c2 [] (by simp) (fun j u hu => by simp at hu) (by simp) (by simpa using hm) (by simpa using hb) (Nat.zero_le _)
        exact ⟨v', w', hrun, ⟨[], rfl, h2⟩, h3, h5⟩
      · obtain ⟨ad', hA, hra⟩ := hr hpos
        cases hA
        obtain ⟨news, hLn, hc⟩ := hra.cells
        obtain ⟨v', w', hrun, h2, h3, _, h5⟩ := run_append_own_at (P := P) w 0 t o.type e inf z d.sz bytes ht hi1 hi2 hi3 hi4 hz hsz _ _ _ hown ad ys.length c2 news hLn.length hc hLn.one hm hb (Nat.zero_le _)
        exact ⟨v', w', hrun, ⟨news, hLn, h2⟩, h3, h5⟩
  obtain ⟨v', w', hrun, ⟨news, hLn, hown'⟩, hg, hat⟩ := key
  have hv : ∃ A' c', v' = .slice A' (xs.length + ys.length) c' := by
    rcases hown'.2 with ⟨rfl, hn⟩ | ⟨g, cap, cur, rfl, _⟩
    · exact ⟨none, 0, by rw [hn]⟩
    · exact ⟨_, _, rfl⟩
  obtain ⟨A', c', rfl⟩ := hv
  have h : (execOp a.eval o).run P w = .ok (.value (.slice A' (xs.length + ys.length) c')) w' := by
    unfold execOp; rw [ho]
    simp only [resolve, Sem.run_bind, Sem.run_pure, Result.andThen_ok, invoke]
    have e1 : #[x, y].map a.eval = #[.slice A xs.length c, .slice A2 ys.length c2] := by simp [hx, hy]
    rw [e1]
    show (do pure (.value (← Builtin.append_ #[t, t] o.type _)) : Sem Next).run P w = _
    rw [Sem.run_bind, hrun]
    rfl
  unfold Oper.wp
  rw [h]
  refine hK _ _ _ _ (hS'.upd h1 h2 hd hsep hg.os hg.tape hg.output hg.size (fun k hk hk1 => hg.block k hk fun e => hk1 (hSo k e.symm)) (Ls := [own d e A' (xs.length + ys.length) c' (xs ++ ys)]) fun S hS1 hS2 _ =>
    ⟨S, fun _ => False, fun _ h => h, fun _ h => h.elim, fun _ _ h => h, ⟨by simp, ⟨inner ++ news, hLay.append hLn, by rw [List.length_append]; exact hown'⟩, fun g hg' => ?_⟩, trivial⟩)
  rw [List.length_append] at hg'
  rcases hat with h | h
  · rw [h] at hg'; exact hS1 _ (hSo _ hg')
  · have hlt := (hown'.lt g hg').2
    rw [h] at hg'
    cases hg'
    exact hS2 _ (Nat.le_refl _) hlt

/-! stores -/
def splice (cs : List Value) (off : Nat) (vs : List Value) : List Value := cs.take off ++ vs ++ cs.drop (off + vs.length)

theorem run_store_at {g : Nat} {cur : Array Value} {off : Nat} {vs : List Value} (hg : w.heap[g]? = some (.cells cur T (0, 0))) (hl : off + vs.length ≤ cur.size) (h1 : ∀ v ∈ vs, v.oneCell' = true)
    (hx : v.cells.toList = vs) (hi : (P.info? t).map (·.size) = some vs.length) : (storeVar t ⟨g, off, none⟩ v).run P w = .ok () (w.setRow g (splice cur.toList off vs).toArray) := by
  obtain ⟨i, hi1, hi2⟩ := Option.map_eq_some_iff.1 hi
  have h := run_storeCells_at (P := P) g off T vs 0 cur w hg (by omega) h1
  have hs : v.cells.size = vs.length := by rw [← hx]; simp
  simp only [Nat.add_zero] at h
  simp [storeVar, sizeOf, typeInfo, hi1, hi2, hs, hx, h, splice]

theorem setRow_other {g k : Nat} {cs : Array Value} (h : k ≠ g) : (w.setRow g cs).heap[k]? = w.heap[k]? := by
  simp only [World.setRow, Array.getElem?_modify]
  rw [if_neg (by omega)]

theorem e_store_blk (i : Nat) {g off : Nat} {cs vs : List Value} {L' : List HP} (hS : SH r L w) (hL : pk i L = blk g T cs :: L') (ho : o.op = .store t x y) (hx : a.eval x = .pointer (some ⟨g, off, none⟩)) (hy : a.eval y = v)
    (hv : v.cells.toList = vs) (h1 : ∀ v ∈ vs, v.oneCell' = true) (hl : off + vs.length ≤ cs.length) (hi : (P.info? t).map (·.size) = some vs.length)
    (hK : ∀ w', SH r (blk g T (splice cs off vs) :: L') w' → K (a.put o.dst undef) w') : o.wp P a w K Q := by
  have hS' := hS.pk i
  rw [hL] at hS'
  obtain ⟨S1, S2, q1, q2, hd, hA, hsep⟩ := hS'.sep
  have hrun := run_store_at (P := P) (t := t) (v := v) hA.2 (by simpa using hl) h1 hv hi
  have h : (execOp a.eval o).run P w = .ok .skip (w.setRow g (splice cs off vs).toArray) := by
    unfold execOp; rw [ho]
    simp only [hx, hy, Instr.storeAt, Instr.sureAddr, Sem.run_bind, Sem.run_pure, Result.andThen_ok, hrun]
  unfold Oper.wp
  rw [h]
  refine hK _ (hS'.upd (w' := w.setRow g (splice cs off vs).toArray) q1 q2 hd hsep rfl rfl rfl (by simp [World.setRow]) (fun k hk hk1 => setRow_other fun e => hk1 (by rw [e]; exact hA.1)) (Ls := [blk g T (splice cs off vs)]) fun S hS1 _ _ =>
    ⟨S, fun _ => False, fun _ h => h, fun _ h => h.elim, fun _ _ h => h, ⟨hS1 _ hA.1, setRow_heap w g _ _ T (0, 0) hA.2⟩, trivial⟩)

theorem splice_length {cs vs : List Value} {off : Nat} (h : off + vs.length ≤ cs.length) : (splice cs off vs).length = cs.length := by
  simp [splice]; omega

theorem Lay.store : ∀ {xs : List α} {cs : List Value}, Lay d xs cs → ∀ {j off : Nat} {x x' : α} {vs : List Value}, xs[j]? = some x → off + vs.length ≤ d.sz → (∀ c, d.V x c → d.V x' (splice c off vs)) →
    Lay d (xs.set j x') (splice cs (j * d.sz + off) vs)
  | [], _, _, j, _, _, _, _, h, _, _ => by simp at h
  | y :: xs, _, ⟨c1, c2, e, hV, hL⟩, 0, off, x, x', vs, h, ho, hv => by
    subst e
    cases h
    have hl := d.len hV
    refine ⟨splice c1 off vs, c2, ?_, hv _ hV, hL⟩
    simp only [splice, Nat.zero_mul, Nat.zero_add]
    rw [List.take_append_of_le_length (by omega), List.drop_append_of_le_length (by omega), List.append_assoc, List.append_assoc, List.append_assoc]
  | y :: xs, _, ⟨c1, c2, e, hV, hL⟩, j + 1, off, x, x', vs, h, ho, hv => by
    subst e
    have hl := d.len hV
    refine ⟨c1, _, ?_, hV, Lay.store hL (j := j) (by simpa using h) ho hv⟩
    simp only [splice]
    have e1 : (j + 1) * d.sz + off = c1.length + (j * d.sz + off) := by rw [hl, Nat.add_mul]; omega
    rw [e1, List.take_append, List.take_of_length_le (by omega), Nat.add_sub_cancel_left, Nat.add_assoc c1.length, List.drop_append, List.drop_eq_nil_of_le (show c1.length ≤ c1.length + (j * d.sz + off + vs.length) by omega), List.nil_append, Nat.add_sub_cancel_left]
    simp [List.append_assoc]

theorem e_store_own (i : Nat) {A : Option Addr} {n1 c off j : Nat} {xs : List α} {z z' : α} {vs : List Value} {L' : List HP} (hS : SH r L w) (hL : pk i L = own d e A n1 c xs :: L') (ho : o.op = .store t x y) (hx : a.eval x = .pointer (some (ea A (j * d.sz + off)))) (hy : a.eval y = v)
    (hv : v.cells.toList = vs) (h1 : ∀ v ∈ vs, v.oneCell' = true) (hl : off + vs.length ≤ d.sz) (hi : (P.info? t).map (·.size) = some vs.length) (hj : xs[j]? = some z) (hV : ∀ c, d.V z c → d.V z' (splice c off vs))
    (hK : ∀ w', SH r (own d e A n1 c (xs.set j z') :: L') w' → K (a.put o.dst undef) w') : o.wp P a w K Q := by
  have hS' := hS.pk i
  rw [hL] at hS'
  obtain ⟨S1, S2, q1, q2, hd, ⟨hn1, ⟨inner, hLay, hown⟩, hSo⟩, hsep⟩ := hS'.sep
  subst hn1
  have hjl : j < xs.length := (List.getElem?_eq_some_iff.1 hj).1
  have hin := hLay.length
  rcases hown.2 with ⟨hv', hn⟩ | ⟨g, cap, cur, hv', hg0, hh, hnc, hcm, hs, htk⟩
  · omega
  · injection hv' with hA _ hc
    subst hA hc
    have hmul : (j + 1) * d.sz ≤ xs.length * d.sz := Nat.mul_le_mul_right _ (by omega)
    have hmul2 : xs.length * d.sz ≤ c * d.sz := Nat.mul_le_mul_right _ hnc
    rw [Nat.add_mul] at hmul
    have hx' : a.eval x = .pointer (some ⟨g, j * d.sz + off, none⟩) := by rw [hx]; simp [ea, add_mk]
    have hrun := run_store_at (P := P) (t := t) (v := v) (off := j * d.sz + off) hh (by omega) h1 hv hi
    have h : (execOp a.eval o).run P w = .ok .skip (w.setRow g (splice cur.toList (j * d.sz + off) vs).toArray) := by
      unfold execOp; rw [ho]
      simp only [hx', hy, Instr.storeAt, Instr.sureAddr, Sem.run_bind, Sem.run_pure, Result.andThen_ok, hrun]
    unfold Oper.wp
    rw [h]
    refine hK _ (hS'.upd (w' := w.setRow g (splice cur.toList (j * d.sz + off) vs).toArray) q1 q2 hd hsep rfl rfl rfl (by simp [World.setRow]) (fun k hk hk1 => setRow_other fun e => hk1 (by rw [e]; exact hSo _ rfl)) (Ls := [own d e (some ⟨g, 0, none⟩) xs.length c (xs.set j z')]) fun S hS1 _ _ =>
      ⟨S, fun _ => False, fun _ h => h, fun _ h => h.elim, fun _ _ h => h, ?_, trivial⟩)
    refine own_new (setRow_heap w g _ _ e (0, 0) hh) (hS1 _ (hSo _ rfl)) (by simp) (by simpa using hnc) hcm ?_ ?_
    · have := splice_length (cs := cur.toList) (vs := vs) (off := j * d.sz + off) (by simp; omega)
      simp only [List.size_toArray, this]
      simpa using hs
    · have hst := hLay.store hj hl hV
      have e1 : (splice cur.toList (j * d.sz + off) vs).take (xs.length * d.sz) = splice inner (j * d.sz + off) vs := by
        rw [← htk]
        simp only [splice]
        rw [List.take_append, List.take_append, List.take_take, List.take_take, Nat.min_eq_right (by omega), Nat.min_eq_left (by omega), List.length_append, List.length_take]
        rw [List.take_of_length_le (l := vs) (by simp; omega)]
        congr 1
        rw [List.drop_take]
        congr 1
        simp
        omega
      simp only [List.length_set]
      rw [e1]
      exact hst

/-! calls -/
def EN (P : Program) (f : FuncId) : Prop := ∀ (args : Array Value) (w : World), (callFunc f args).run P w = .ok (.enter f args) w

/-- what a call comes to -/
def Ret (P : Program) (f : FuncId) (args : Array Value) (w : World) (R : Value → World → Prop) : Prop := Calls P f args w fun e w' => ∃ v, e = .returned v ∧ R v w'

theorem e_call {f : FuncId} {as : Array Operand} {ts : Array TypeId} {vals : Array Value} {R : Value → World → Prop} (hf : EN P f) (ho : o.op = .call { callee := .value (.func f), args := as, argTypes := ts }) (hargs : as.map a.eval = vals)
    (hC : Ret P f vals w R) (hK : ∀ v w', R v w' → K (a.put o.dst v) w') : o.wp P a w K Q := by
  have h : (execOp a.eval o).run P w = .ok (.enter f vals) w := by
    unfold execOp; rw [ho]
    simp only [resolve, Act.eval, Deferred.ofValue, Sem.run_bind, Sem.run_pure, Result.andThen_ok, invoke, hargs]
    have := hf (#[] ++ vals ++ #[]) w
    simpa using this
  unfold Oper.wp
  rw [h]
  exact Calls.mono hC fun e w' ⟨v, he, hR⟩ => by subst he; exact hK v w' hR

theorem e_callv {f : FuncId} {fx : Operand} {as : Array Operand} {ts : Array TypeId} {vals caps : Array Value} {R : Value → World → Prop} (hf : EN P f) (ho : o.op = .call { callee := .value fx, args := as, argTypes := ts }) (hfx : a.eval fx = .func (.func f) #[] caps) (hargs : as.map a.eval ++ caps = vals)
    (hC : Ret P f vals w R) (hK : ∀ v w', R v w' → K (a.put o.dst v) w') : o.wp P a w K Q := by
  have h : (execOp a.eval o).run P w = .ok (.enter f vals) w := by
    unfold execOp; rw [ho]
    simp only [resolve, hfx, Deferred.ofValue, Sem.run_bind, Sem.run_pure, Result.andThen_ok, invoke]
    have := hf (#[] ++ as.map a.eval ++ caps) w
    simpa [hargs] using this
  unfold Oper.wp
  rw [h]
  exact Calls.mono hC fun e w' ⟨v, he, hR⟩ => by subst he; exact hK v w' hR
end
end Go.Proofs.Ytgjhiojkkjaloaa.E
