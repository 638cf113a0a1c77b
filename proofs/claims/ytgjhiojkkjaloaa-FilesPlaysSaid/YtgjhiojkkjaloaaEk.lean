/- The engine's whole rows: a row with all its room; copy, clear, append in place; noughts behind. -/
import Derived.Test.YtgjhiojkkjaloaaEj
import Derived.Lib.AppendZerosOnto
import Derived.Lib.Overlaps
namespace Go.Proofs.Ytgjhiojkkjaloaa.E
open Go Go.RowKit Go.Lib
set_option linter.unusedVariables false
set_option linter.unusedSimpArgs false

section
variable {α : Type} {d : Kd α}
def LayO (d : Kd α) : List (Option α) → List Value → Prop
  | [], cs => cs = []
  | o :: os, cs => ∃ c1 c2, cs = c1 ++ c2 ∧ c1.length = d.sz ∧ (∀ x, o = some x → d.V x c1) ∧ LayO d os c2
theorem LayO.length : ∀ {os : List (Option α)} {cs : List Value}, LayO d os cs → cs.length = os.length * d.sz
  | [], _, h => by cases h; simp
  | o :: os, _, ⟨c1, c2, e, hl, hV, hL⟩ => by rw [e, List.length_append, hl, LayO.length hL, List.length_cons, Nat.add_mul]; omega
theorem LayO.of_lay : ∀ {xs : List α} {cs : List Value}, Lay d xs cs → LayO d (xs.map some) cs
  | [], _, h => h
  | x :: xs, _, ⟨c1, c2, e, hV, hL⟩ => ⟨c1, c2, e, d.len hV, fun y hy => by cases hy; exact hV, LayO.of_lay hL⟩
theorem LayO.lay : ∀ {xs : List α} {cs : List Value}, LayO d (xs.map some) cs → Lay d xs cs
  | [], _, h => h
  | x :: xs, _, ⟨c1, c2, e, hl, hV, hL⟩ => ⟨c1, c2, e, hV x rfl, LayO.lay hL⟩
theorem LayO.none_ : ∀ (m : Nat) {cs : List Value}, cs.length = m * d.sz → LayO d (List.replicate m none) cs
  | 0, cs, h => List.eq_nil_of_length_eq_zero (by simpa using h)
  | m + 1, cs, h => by
    rw [Nat.add_mul, Nat.one_mul] at h
    exact ⟨cs.take d.sz, cs.drop d.sz, (List.take_append_drop _ _).symm, by rw [List.length_take]; omega, (fun x hx => nomatch hx), LayO.none_ m (by rw [List.length_drop]; omega)⟩
theorem LayO.append : ∀ {os ps : List (Option α)} {c1 c2 : List Value}, LayO d os c1 → LayO d ps c2 → LayO d (os ++ ps) (c1 ++ c2)
  | [], _, _, _, h, h2 => by cases h; exact h2
  | o :: os, ps, _, c2, ⟨q1, q2, e, hl, hV, hL⟩, h2 => ⟨q1, q2 ++ c2, by rw [e, List.append_assoc], hl, hV, LayO.append hL h2⟩
theorem LayO.take : ∀ {os : List (Option α)} {cs : List Value}, LayO d os cs → ∀ m, LayO d (os.take m) (cs.take (m * d.sz))
  | [], _, h, m => by cases h; simp [LayO]
  | o :: os, _, ⟨c1, c2, e, hl, hV, hL⟩, 0 => by simp [LayO]
  | o :: os, _, ⟨c1, c2, e, hl, hV, hL⟩, m + 1 => by
    subst e
    refine ⟨c1, _, ?_, hl, hV, LayO.take hL m⟩
    rw [show (m + 1) * d.sz = c1.length + m * d.sz by rw [hl, Nat.add_mul]; omega, List.take_append, List.take_of_length_le (by omega), Nat.add_sub_cancel_left]
theorem LayO.drop : ∀ {os : List (Option α)} {cs : List Value}, LayO d os cs → ∀ m, LayO d (os.drop m) (cs.drop (m * d.sz))
  | [], _, h, m => by cases h; simp [LayO]
  | o :: os, cs, h, 0 => by simpa using h
  | o :: os, _, ⟨c1, c2, e, hl, hV, hL⟩, m + 1 => by
    subst e
    show LayO d (os.drop m) _
    rw [show (m + 1) * d.sz = c1.length + m * d.sz by rw [hl, Nat.add_mul]; omega, List.drop_append, List.drop_eq_nil_of_le (show c1.length ≤ c1.length + m * d.sz by omega), List.nil_append, Nat.add_sub_cancel_left]
    exact LayO.drop hL m

/-- a row with all its room -/
def row (d : Kd α) (e : TypeId) (g c : Nat) (os : List (Option α)) : HP where
  P w S := (S g ∧ os.length = c ∧ c ≤ maxLen) ∧ ∃ cur : Array Value, w.heap[g]? = some (.cells cur e (0, 0)) ∧ LayO d os cur.toList
  fr h hk := ⟨h.1, by obtain ⟨cur, h1, h2⟩ := h.2; exact ⟨cur, (hk _ h.1.1).trans h1, h2⟩⟩
  mono h hs := ⟨⟨hs _ h.1.1, h.1.2⟩, h.2⟩
end

section
variable {r w : World} {L : List HP} {α : Type} {d : Kd α} {e : TypeId} {A : Option Addr} {n c g : Nat} {xs : List α} {os : List (Option α)}
theorem own_row (hc : 0 < c) (h : SH r (own d e A n c xs :: L) w) : ∃ g, A = some ⟨g, 0, none⟩ ∧ SH r (row d e g c (xs.map some ++ List.replicate (c - n) none) :: L) w := by
  obtain ⟨S1, S2, h1, h2, hd, ⟨hn, ⟨inner, hL', ho⟩, hS⟩, hL⟩ := h.sep
  subst hn
  rcases ho.2 with ⟨hv, _⟩ | ⟨g, cap, cur, hv, _, hh, hnc, hcm, hs, ht⟩
  · injection hv with _ _ h3; omega
  · injection hv with hA _ hc'
    subst hA hc'
    refine ⟨g, rfl, h.os, h.tape, h.output, S1, S2, h1, h2, hd, ⟨⟨hS _ rfl, by simp; omega, hcm⟩, cur, hh, ?_⟩, hL⟩
    have e1 : cur.toList = inner ++ cur.toList.drop (xs.length * d.sz) := by rw [← ht, List.take_append_drop]
    rw [e1]
    refine (LayO.of_lay hL').append (LayO.none_ _ ?_)
    rw [List.length_drop, Array.length_toList, hs, Nat.sub_mul]
theorem row_own (h : SH r (row d e g c os :: L) w) (hx : os.take xs.length = xs.map some) (hn : xs.length = n) : SH r (own d e (some ⟨g, 0, none⟩) n c xs :: L) w := by
  refine h.imp fun S hS => ?_
  obtain ⟨⟨hg, hl, hcm⟩, cur, hh, hLO⟩ := hS
  have hle : xs.length ≤ c := by
    have := congrArg List.length hx
    rw [List.length_take, List.length_map] at this
    omega
  refine own_new hh hg hn hle hcm (by have := hLO.length; simpa [hl] using this) ?_
  have := hLO.take xs.length
  rw [hx] at this
  exact this.lay
theorem row_rd {lo : Nat} {ys : List α} (h : SH r L w) (q : Nat) (hq : L[q]? = some (row d e g c os)) (hy : (os.drop lo).take ys.length = ys.map some) : Rd d w (some ⟨g, lo * d.sz, none⟩) ys := by
  obtain ⟨S, ⟨hg, hl, hcm⟩, cur, hh, hLO⟩ := h.get q hq
  intro _
  have h1 := (hLO.drop lo).take ys.length
  rw [hy] at h1
  refine ⟨_, rfl, RdA.of_lay h1.lay fun j u hu => ?_⟩
  rw [add_mk]
  simp only [World.cell?, hh]
  rw [List.getElem?_take] at hu
  split at hu
  · rw [List.getElem?_drop] at hu
    simpa using hu
  · cases hu
end

section
variable {P : Program} {r w : World} {L : List HP} {α : Type} {d : Kd α} {e t : TypeId} {n c g : Nat} {os : List (Option α)} {o : Oper} {a : Act} {K : Act → World → Prop} {Q : Exit → Act → World → Prop} {x y : Operand}

/-- some of a row's elements are written over -/
theorem row_put {lo : Nat} {ys : List α} {cells : List Value} {L' : List HP} (hS : SH r (row d e g c os :: L') w) (hlo : lo + ys.length ≤ c) (hL : Lay d ys cells) {cur : Array Value} (hh : w.heap[g]? = some (.cells cur e (0, 0))) :
    SH r (row d e g c (os.take lo ++ ys.map some ++ os.drop (lo + ys.length)) :: L') (w.setRow g (cur.toList.take (lo * d.sz) ++ cells ++ cur.toList.drop (lo * d.sz + cells.length)).toArray) := by
  obtain ⟨S1, S2, h1, h2, hd, ⟨⟨hg, hl, hcm⟩, cur', hh', hLO⟩, hsep⟩ := hS.sep
  rw [hh] at hh'
  cases hh'
  refine hS.upd (w' := w.setRow g (cur.toList.take (lo * d.sz) ++ cells ++ cur.toList.drop (lo * d.sz + cells.length)).toArray) h1 h2 hd hsep rfl rfl rfl (by simp [World.setRow]) (fun k hk hk1 => setRow_other fun e => hk1 (by rw [e]; exact hg)) (Ls := [row d e g c (os.take lo ++ ys.map some ++ os.drop (lo + ys.length))]) fun S hS1 _ _ =>
    ⟨S, fun _ => False, fun _ h => h, fun _ h => h.elim, fun _ _ h => h, ⟨⟨hS1 _ hg, by simp; omega, hcm⟩, _, setRow_heap w g _ _ e (0, 0) hh, ?_⟩, trivial⟩
  rw [List.toList_toArray, hL.length, ← Nat.add_mul]
  exact ((hLO.take lo).append (LayO.of_lay hL)).append (hLO.drop (lo + ys.length))

theorem row_cur (hS : SH r (row d e g c os :: L) w) : ∃ cur : Array Value, w.heap[g]? = some (.cells cur e (0, 0)) ∧ cur.size = c * d.sz ∧ os.length = c := by
  obtain ⟨S, ⟨hg, hl, hcm⟩, cur, hh, hLO⟩ := hS.get 0 rfl
  exact ⟨cur, hh, by have := hLO.length; rw [hl] at this; simpa using this, hl⟩

theorem rd_cells {A : Option Addr} {ys : List α} (hr : Rd d w A ys) (h : 0 < ys.length) : ∃ ad cells, A = some ad ∧ Lay d ys cells ∧ ∀ j u, cells[j]? = some u → w.cell? (ad.add j) = some u := by
  obtain ⟨ad, hA, hra⟩ := hr h
  obtain ⟨cells, hL, hc⟩ := hra.cells
  exact ⟨ad, cells, hA, hL, hc⟩

theorem e_copy (i : Nat) {lo dl dc n2 c2 : Nat} {A2 : Option Addr} {ys : List α} {t' : TypeId} {L' : List HP} (hS : SH r L w) (hL : pk i L = row d e g c os :: L') (ht : P.underlying t = some (.slice e)) (hi : (P.info? e).map (·.size) = some d.sz)
    (ho : o.op = .call { callee := .builtin .copy, args := #[x, y], argTypes := #[t, t'] }) (hx : a.eval x = .slice (some ⟨g, lo * d.sz, none⟩) dl dc) (hy : a.eval y = .slice A2 n2 c2) (hr : Rd d w A2 (ys.take (min n2 dl))) (hk : 0 < min n2 dl) (hlen : min n2 dl ≤ ys.length)
    (hlo : lo + min n2 dl ≤ c) (hK : ∀ v w', SH r (row d e g c (os.take lo ++ (ys.take (min n2 dl)).map some ++ os.drop (lo + min n2 dl)) :: L') w' → K (a.put o.dst v) w') : o.wp P a w K Q := by
  have hS' := hS.pk i
  rw [hL] at hS'
  have hyl : (ys.take (min n2 dl)).length = min n2 dl := by rw [List.length_take]; omega
  obtain ⟨ad, cells, rfl, hLy, hc⟩ := rd_cells hr (by omega)
  obtain ⟨cur, hh, hcs, hol⟩ := row_cur hS'
  obtain ⟨inf, hi1, hi2⟩ := Option.map_eq_some_iff.1 hi
  have hcl : cells.length = min n2 dl * d.sz := by rw [hLy.length, hyl]
  have hmul : (lo + min n2 dl) * d.sz ≤ c * d.sz := Nat.mul_le_mul_right _ hlo
  rw [Nat.add_mul] at hmul
  have hst := run_storeCells_at P g (lo * d.sz) e cells 0 cur w hh (by omega) hLy.one
  have hld := run_loadCells_list (P := P) w ad cells hc
  rw [hcl] at hld
  have hrun : (Builtin.copy_ #[t, t'] o.type #[.slice (some ⟨g, lo * d.sz, none⟩) dl dc, .slice (some ad) n2 c2]).run P w = .ok (goInt ((Nat.min n2 dl : Nat) : Int)) (w.setRow g (cur.toList.take (lo * d.sz) ++ cells ++ cur.toList.drop (lo * d.sz + cells.length)).toArray) := by
    simp only [Nat.add_zero] at hst
    have hld' : (loadCells ad (Nat.min n2 dl * d.sz)).run P w = .ok cells.toArray w := hld
    simp [Builtin.copy_, run_underlying ht, sizeOf, typeInfo, hi1, hi2, Builtin.lenOf, Builtin.firstCells, hld', hst]
  have h : (execOp a.eval o).run P w = .ok (.value (goInt ((Nat.min n2 dl : Nat) : Int))) (w.setRow g (cur.toList.take (lo * d.sz) ++ cells ++ cur.toList.drop (lo * d.sz + cells.length)).toArray) := by
    unfold execOp; rw [ho]
    simp only [resolve, Sem.run_bind, Sem.run_pure, Result.andThen_ok, invoke]
    have e1 : #[x, y].map a.eval = #[.slice (some ⟨g, lo * d.sz, none⟩) dl dc, .slice (some ad) n2 c2] := by simp [hx, hy]
    rw [e1]
    show (do pure (.value (← Builtin.copy_ #[t, t'] o.type _)) : Sem Next).run P w = _
    rw [Sem.run_bind, hrun]
    rfl
  unfold Oper.wp
  rw [h]
  have := row_put hS' (lo := lo) (by rw [hyl]; exact hlo) hLy hh
  rw [hyl] at this
  exact hK _ _ this

theorem zeroCells_toList (z : Array Value) (k : Nat) : (Builtin.zeroCells z k).toList = (List.replicate k z.toList).flatten := by
  apply List.ext_getElem?
  intro i
  rcases Nat.lt_or_ge i (k * z.size) with hi | hi
  · have hz : 0 < z.size := Nat.pos_of_ne_zero fun h => by rw [h] at hi; omega
    have hm : i % z.size < z.size := Nat.mod_lt _ hz
    rw [flatten_replicate_get _ _ _ (by simpa using hi)]
    simp [Builtin.zeroCells, hi, hm]
  · rw [List.getElem?_eq_none (by simp [size_zeroCells, hi]), List.getElem?_eq_none (by simp [List.length_flatten, hi])]
theorem lay_zeros {z : Array Value} {z0 : α} (hz : d.V z0 z.toList) (k : Nat) : Lay d (List.replicate k z0) (Builtin.zeroCells z k).toList := by
  rw [zeroCells_toList]
  induction k with
  | zero => rfl
  | succ k ih => exact ⟨_, _, rfl, hz, ih⟩

theorem e_clear (i : Nat) {lo m mc : Nat} {z : Value} {z0 : α} {L' : List HP} (hS : SH r L w) (hL : pk i L = row d e g c os :: L') (ht : P.underlying t = some (.slice e)) (hi : (P.info? e).bind (·.zero) = some z) (hz : d.V z0 z.cells.toList)
    (ho : o.op = .call { callee := .builtin .clear, args := #[x], argTypes := #[t] }) (hx : a.eval x = .slice (some ⟨g, lo * d.sz, none⟩) m mc) (hm : 0 < m) (hlo : lo + m ≤ c)
    (hK : ∀ v w', SH r (row d e g c (os.take lo ++ (List.replicate m z0).map some ++ os.drop (lo + m)) :: L') w' → K (a.put o.dst v) w') : o.wp P a w K Q := by
  have hS' := hS.pk i
  rw [hL] at hS'
  obtain ⟨cur, hh, hcs, hol⟩ := row_cur hS'
  have hLy := lay_zeros hz m
  obtain ⟨inf, hi1, hi2⟩ := Option.bind_eq_some_iff.1 hi
  have hcl : (Builtin.zeroCells z.cells m).toList.length = m * d.sz := by rw [hLy.length, List.length_replicate]
  have hmul : (lo + m) * d.sz ≤ c * d.sz := Nat.mul_le_mul_right _ hlo
  rw [Nat.add_mul] at hmul
  have hst := run_storeCells_at P g (lo * d.sz) e (Builtin.zeroCells z.cells m).toList 0 cur w hh (by omega) hLy.one
  have hrun : (Builtin.clear_ #[t] o.type #[.slice (some ⟨g, lo * d.sz, none⟩) m mc]).run P w = .ok (.tuple #[]) (w.setRow g (cur.toList.take (lo * d.sz) ++ (Builtin.zeroCells z.cells m).toList ++ cur.toList.drop (lo * d.sz + (Builtin.zeroCells z.cells m).toList.length)).toArray) := by
    simp only [Nat.add_zero] at hst
    obtain ⟨k, rfl⟩ : ∃ k, m = k + 1 := ⟨m - 1, by omega⟩
    simp [Builtin.clear_, run_underlying ht, zeroValue, typeInfo, hi1, hi2, hst]
  have h : (execOp a.eval o).run P w = .ok (.value (.tuple #[])) (w.setRow g (cur.toList.take (lo * d.sz) ++ (Builtin.zeroCells z.cells m).toList ++ cur.toList.drop (lo * d.sz + (Builtin.zeroCells z.cells m).toList.length)).toArray) := by
    unfold execOp; rw [ho]
    simp only [resolve, Sem.run_bind, Sem.run_pure, Result.andThen_ok, invoke]
    have e1 : #[x].map a.eval = #[.slice (some ⟨g, lo * d.sz, none⟩) m mc] := by simp [hx]
    rw [e1]
    show (do pure (.value (← Builtin.clear_ #[t] o.type _)) : Sem Next).run P w = _
    rw [Sem.run_bind, hrun]
    rfl
  unfold Oper.wp
  rw [h]
  have := row_put hS' (lo := lo) (ys := List.replicate m z0) (by rw [List.length_replicate]; exact hlo) hLy hh
  rw [List.length_replicate] at this
  exact hK _ _ this

theorem e_append_row (i : Nat) {k n2 c2 : Nat} {A2 : Option Addr} {ys : List α} {L' : List HP} (hS : SH r L w) (hL : pk i L = row d e g c os :: L') (ht : P.underlying t = some (.slice e)) (hi : (P.info? e).map (·.size) = some d.sz)
    (ho : o.op = .call { callee := .builtin .append, args := #[x, y], argTypes := #[t, t] }) (hx : a.eval x = .slice (some ⟨g, 0, none⟩) k c) (hy : a.eval y = .slice A2 n2 c2) (hr : Rd d w A2 ys) (hn2 : ys.length = n2) (hroom : k + n2 ≤ c)
    (hK : ∀ w', SH r (row d e g c (os.take k ++ ys.map some ++ os.drop (k + n2)) :: L') w' → K (a.put o.dst (.slice (some ⟨g, 0, none⟩) (k + n2) c)) w') : o.wp P a w K Q := by
  subst hn2
  have hS' := hS.pk i
  rw [hL] at hS'
  rcases Nat.eq_zero_or_pos ys.length with h00 | h0
  · have hy0 := List.eq_nil_of_length_eq_zero h00
    subst hy0
    obtain ⟨inf, hi1, hi2⟩ := Option.map_eq_some_iff.1 hi
    have hrun : (Builtin.append_ #[t, t] o.type #[.slice (some ⟨g, 0, none⟩) k c, .slice A2 0 c2]).run P w = .ok (.slice (some ⟨g, 0, none⟩) k c) w := by
      have hkc : k ≤ c := by simpa using hroom
      have hl0 : ∀ ad, (loadCells ad 0).run P w = .ok #[] w := fun ad => by simp [loadCells, loadCellsFrom]
      cases A2 <;> simp [Builtin.append_, run_underlying ht, sizeOf, typeInfo, hi1, Builtin.lenOf, Builtin.firstCells, hkc, storeCells, hl0]
    have h : (execOp a.eval o).run P w = .ok (.value (.slice (some ⟨g, 0, none⟩) k c)) w := by
      unfold execOp; rw [ho]
      simp only [resolve, Sem.run_bind, Sem.run_pure, Result.andThen_ok, invoke]
      have e1 : #[x, y].map a.eval = #[.slice (some ⟨g, 0, none⟩) k c, .slice A2 0 c2] := by simp [hx, hy]
      rw [e1]
      show (do pure (.value (← Builtin.append_ #[t, t] o.type _)) : Sem Next).run P w = _
      rw [Sem.run_bind, hrun]
      rfl
    unfold Oper.wp
    rw [h]
    have := hK w
    simp only [List.map_nil, List.append_nil, List.length_nil, Nat.add_zero, List.take_append_drop] at this
    exact this hS'
  obtain ⟨ad, cells, rfl, hLy, hc⟩ := rd_cells hr h0
  obtain ⟨cur, hh, hcs, hol⟩ := row_cur hS'
  obtain ⟨inf, hi1, hi2⟩ := Option.map_eq_some_iff.1 hi
  have hmul : (k + ys.length) * d.sz ≤ c * d.sz := Nat.mul_le_mul_right _ hroom
  rw [Nat.add_mul] at hmul
  have hrun := run_append_room (P := P) w t o.type e inf ht hi1 g k c cur hh ad ys.length c2 cells (by rw [hi2]; exact hLy.length) hc hLy.one hroom (by rw [hi2, hLy.length]; omega)
  rw [hi2] at hrun
  have h : (execOp a.eval o).run P w = .ok (.value (.slice (some ⟨g, 0, none⟩) (k + ys.length) c)) (w.setRow g (cur.toList.take (k * d.sz) ++ cells ++ cur.toList.drop (k * d.sz + cells.length)).toArray) := by
    unfold execOp; rw [ho]
    simp only [resolve, Sem.run_bind, Sem.run_pure, Result.andThen_ok, invoke]
    have e1 : #[x, y].map a.eval = #[.slice (some ⟨g, 0, none⟩) k c, .slice (some ad) ys.length c2] := by simp [hx, hy]
    rw [e1]
    show (do pure (.value (← Builtin.append_ #[t, t] o.type _)) : Sem Next).run P w = _
    rw [Sem.run_bind, hrun]
    rfl
  unfold Oper.wp
  rw [h]
  exact hK _ (row_put hS' hroom hLy hh)

theorem e_append_zeros {k m cS bytes : Nat} {A : Option Addr} {z : Value} {z0 : α} {kq kn : IntKind} {tn : TypeId} {ys : List α} (hS : SH r L w) (ht : P.underlying t = some (.slice e)) (htn : P.underlying tn = some (.int kn))
    (hi : (P.info? e).map (fun i => (i.zero, i.size, i.bytes)) = some (some z, d.sz, bytes)) (hz : d.V z0 z.cells.toList) (ho : o.op = .call { callee := .builtin .append, args := #[x, y], argTypes := #[t, tn] })
    (hx : a.eval x = .slice A k cS) (hy : a.eval y = .int kq (m : Int)) (hr : Rd d w A ys) (hk : ys.length = k) (h0 : 0 < m) (hs : 0 < d.sz) (hg : cS < k + m) (hb : (k + m) * bytes ≤ 140737488355328) (hbp : 0 < bytes)
    (hK : ∀ g' c' w', SH r (own d e (some ⟨g', 0, none⟩) (k + m) c' (ys ++ List.replicate m z0) :: L) w' → K (a.put o.dst (.slice (some ⟨g', 0, none⟩) (k + m) c')) w') : o.wp P a w K Q := by
  subst hk
  obtain ⟨inf, hi1, hi2, hi3, hi4⟩ := info_parts hi
  obtain ⟨cells, hLy, hold⟩ : ∃ cells, Lay d ys cells ∧ (Builtin.firstCells inf.size ys.length (.slice A ys.length cS)).run P w.drew = .ok cells.toArray w.drew := by
    rcases Nat.eq_zero_or_pos ys.length with h | h
    · have := List.eq_nil_of_length_eq_zero h
      subst this
      cases A with
      | none => exact ⟨[], rfl, run_firstCells_none (P := P) (w := w.drew) inf.size 0 0 cS⟩
      | some ad => exact ⟨[], rfl, run_firstCells_some (P := P) (w := w.drew) inf.size 0 ad 0 cS [] (by simp) (fun j u hu => by simp at hu)⟩
    · obtain ⟨ad', cells, hA, hLy, hc⟩ := rd_cells hr h
      cases hA
      exact ⟨cells, hLy, run_firstCells_some (P := P) (w := w.drew) inf.size ys.length ad' ys.length cS cells (by rw [hi3]; exact hLy.length) hc⟩
  have hle : (ys.length + m) * 1 ≤ (ys.length + m) * bytes := Nat.mul_le_mul_left _ hbp
  have hmb : m * bytes ≤ (ys.length + m) * bytes := Nat.mul_le_mul_right _ (by omega)
  have hrun := run_append_grow_zeros (P := P) w t tn o.type e inf z kq kn ht htn hi1 hi2 A ys.length cS cells hold m h0 (by rw [hi3]; exact hs) hg (by omega) (by rw [hi4]; omega) (by rw [hi4]; exact growslice_fits hg hb)
  have h : (execOp a.eval o).run P w = .ok (.value (.slice (some ⟨w.heap.size, 0, none⟩) (ys.length + m) (grownCap w (ys.length + m) cS e)))
      (w.drew.alloc (.cells (cells.toArray ++ Builtin.zeroCells z.cells m ++ Builtin.zeroCells z.cells (grownCap w (ys.length + m) cS e - (ys.length + m))) e)) := by
    unfold execOp; rw [ho]
    simp only [resolve, Sem.run_bind, Sem.run_pure, Result.andThen_ok, invoke]
    have e1 : #[x, y].map a.eval = #[.slice A ys.length cS, .int kq (m : Int)] := by simp [hx, hy]
    rw [e1]
    show (do pure (.value (← Builtin.append_ #[t, tn] o.type _)) : Sem Next).run P w = _
    rw [Sem.run_bind, hrun]
    rfl
  unfold Oper.wp
  rw [h]
  have hzs : z.cells.size = d.sz := by simpa using d.len hz
  have hge := grownCap_ge w (ys.length + m) cS e
  have hcm : grownCap w (ys.length + m) cS e ≤ maxLen := grownCap_le_maxLen w (ys.length + m) cS e (by simp only [maxLen]; omega)
  generalize hgc : grownCap w (ys.length + m) cS e = cap at *
  refine hK _ _ _ (hS.new (w' := w.drew.alloc (.cells (cells.toArray ++ Builtin.zeroCells z.cells m ++ Builtin.zeroCells z.cells (cap - (ys.length + m))) e)) rfl rfl rfl (by simp) (fun k hk => heap_alloc_old w.drew _ hk) (Ls := [own d e (some ⟨w.heap.size, 0, none⟩) (ys.length + m) cap (ys ++ List.replicate m z0)]) fun S hS' =>
    ⟨S, fun _ => False, fun _ h => h, fun _ h => h.elim, fun _ _ h => h, ?_, trivial⟩)
  have hL2 : Lay d (ys ++ List.replicate m z0) (cells ++ (Builtin.zeroCells z.cells m).toList) := hLy.append (lay_zeros hz m)
  have hl2 := hL2.length
  refine own_new (heap_alloc_new w.drew _) (hS' _ (Nat.le_refl _) (by simp)) (by simp) (by simp; omega) hcm ?_ ?_
  · simp only [Array.size_append, List.size_toArray, size_zeroCells, hzs, hLy.length, ← Nat.add_mul]
    congr 1
    omega
  · have e2 : (cells.toArray ++ Builtin.zeroCells z.cells m ++ Builtin.zeroCells z.cells (cap - (ys.length + m))).toList = (cells ++ (Builtin.zeroCells z.cells m).toList) ++ (Builtin.zeroCells z.cells (cap - (ys.length + m))).toList := by simp
    rw [e2, ← hl2, List.take_left]
    exact hL2

/-- what some of a row's places hold, where all of them hold something -/
def seqO : List (Option α) → Option (List α)
  | [] => some []
  | none :: _ => none
  | some x :: os => (seqO os).map (x :: ·)
theorem seqO_some : ∀ {os : List (Option α)} {ys : List α}, seqO os = some ys → os = ys.map some
  | [], ys, h => by cases h; rfl
  | none :: os, ys, h => by cases h
  | some x :: os, ys, h => by
    unfold seqO at h
    cases hq : seqO os with
    | none => rw [hq] at h; cases h
    | some zs => rw [hq] at h; cases h; rw [seqO_some hq]; rfl
theorem seqO_map : ∀ (ys : List α), seqO (ys.map some) = some ys
  | [] => rfl
  | y :: ys => by show (seqO (ys.map some)).map (y :: ·) = _; rw [seqO_map ys]; rfl
def rdo (os : List (Option α)) (lo k : Nat) : Option (List α) := if lo + k ≤ os.length then seqO ((os.drop lo).take k) else none
theorem rdo_some {lo k : Nat} {ys : List α} (h : rdo os lo k = some ys) : ys.length = k ∧ (os.drop lo).take ys.length = ys.map some ∧ lo + k ≤ os.length := by
  unfold rdo at h
  split at h
  · have e := seqO_some h
    have hl := congrArg List.length e
    rw [List.length_map, List.length_take, List.length_drop] at hl
    have hk : ys.length = k := by omega
    exact ⟨hk, by rw [hk]; exact e, by assumption⟩
  · cases h

theorem own_row' {A : Option Addr} {xs : List α} (hc : 0 < c) (h : SH r (own d e A n c xs :: L) w) : ∃ g, A = some ⟨g, 0, none⟩ ∧ SH r (row d e g c (xs.map some ++ List.replicate (c - xs.length) none) :: L) w := by
  obtain ⟨S, hS⟩ := h.get 0 rfl
  have := hS.1
  rw [this]
  exact own_row hc h
theorem rdo_own {xs : List α} {L' : List HP} (h : SH r (row d e g c os :: L') w) (hx : rdo os 0 n = some xs) : SH r (own d e (some ⟨g, 0, none⟩) n c xs :: L') w := by
  obtain ⟨h1, h2, _⟩ := rdo_some hx
  rw [List.drop_zero] at h2
  exact row_own h h2 h1
/-- copy within a row's elements -/
theorem e_copy_own (i : Nat) {lo dl dc n2 c2 : Nat} {A2 : Option Addr} {xs ys : List α} {t' : TypeId} {L' : List HP} (hS : SH r L w) (hL : pk i L = own d e (some ⟨g, 0, none⟩) n c xs :: L') (ht : P.underlying t = some (.slice e)) (hi : (P.info? e).map (·.size) = some d.sz)
    (ho : o.op = .call { callee := .builtin .copy, args := #[x, y], argTypes := #[t, t'] }) (hx : a.eval x = .slice (some ⟨g, lo * d.sz, none⟩) dl dc) (hy : a.eval y = .slice A2 n2 c2) (hr : Rd d w A2 (ys.take (min n2 dl))) (hk : 0 < min n2 dl) (hlen : min n2 dl ≤ ys.length)
    (hlo : lo + min n2 dl ≤ xs.length) (hK : ∀ v w', SH r (own d e (some ⟨g, 0, none⟩) n c (xs.take lo ++ ys.take (min n2 dl) ++ xs.drop (lo + min n2 dl)) :: L') w' → K (a.put o.dst v) w') : o.wp P a w K Q := by
  have hS' := hS.pk i
  rw [hL] at hS'
  obtain ⟨S, hown⟩ := hS'.get 0 rfl
  have hxn := hown.1
  have hxc := (own_le hown).1
  obtain ⟨g', hg, hrow⟩ := own_row' (by omega) hS'
  injection hg with hg
  injection hg with hg
  subst hg
  refine e_copy 0 hrow rfl ht hi ho hx hy hr hk hlen (by omega) fun v w' hS2 => hK v w' (row_own hS2 ?_ ?_)
  · have hyl : (ys.take (min n2 dl)).length = min n2 dl := by rw [List.length_take]; omega
    simp only [List.map_append, List.length_append, hyl]
    rw [List.take_append_of_le_length (l₁ := xs.map some) (by rw [List.length_map]; omega), List.drop_append_of_le_length (by rw [List.length_map]; omega), ← List.append_assoc,
      List.take_append_of_le_length (by simp; omega), List.take_of_length_le (by simp; omega)]
    simp [List.map_take, List.map_drop]
  · simp; omega
/-- a slice of a slice, where its address is told -/
theorem slv {lo k sz : Nat} (h : k < c) : (if c = k then some (⟨g, lo * sz, none⟩ : Addr) else (some (⟨g, lo * sz, none⟩ : Addr)).map (·.add (k * sz))) = some ⟨g, (lo + k) * sz, none⟩ := by
  rw [if_neg (by omega)]
  simp [add_mk, Nat.add_mul]
end
end Go.Proofs.Ytgjhiojkkjaloaa.E
