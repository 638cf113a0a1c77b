/- Rows of bytes out of strings that are written to; arrays that are a call's own. -/
import Derived.Test.YtgjhiojkkjaloaaEo
namespace Go.Proofs.Ytgjhiojkkjaloaa.E
open Go Go.RowKit
set_option linter.unusedVariables false
set_option linter.unusedSimpArgs false

/-- a row that a string was turned into, all of it -/
def ownw (e : TypeId) (A : Option Addr) (n c : Nat) (xs : List Int) : HP where
  P w S := xs.length = n ∧ n ≤ c ∧ c ≤ maxLen ∧ ∃ g k cur, A = some ⟨g, 0, none⟩ ∧ S g ∧ w.heap[g]? = some (.cells cur e (k, k + 1)) ∧ n ≤ k ∧ n ≤ cur.size ∧ ∀ (j : Nat) x, xs[j]? = some x → cur[j]? = some (.int .u8 x)
  fr h hk := by
    obtain ⟨h1, h2, h3, g, k, cur, h4, h5, h6, h7⟩ := h
    exact ⟨h1, h2, h3, g, k, cur, h4, h5, (hk _ h5).trans h6, h7⟩
  mono h hs := by
    obtain ⟨h1, h2, h3, g, k, cur, h4, h5, h6⟩ := h
    exact ⟨h1, h2, h3, g, k, cur, h4, hs _ h5, h6⟩

section
variable {P : Program} {ops : Array Oper} {Q : Exit → Act → World → Prop} {rest : List Oper} {o : Oper} {a : Act} {w : World} {K : Act → World → Prop} {r : World} {L L' : List HP} {t e T xt yt t' : TypeId} {x y : Operand} {A : Option Addr} {n c m : Nat} {xs : List Int} {s : List UInt8} {v : Value}
theorem ownw_imp {S : Nat → Prop} (h : (ownw e A n c xs).P w S) : (ownm e A n c xs).P w S := by
  obtain ⟨h1, h2, h3, g, k, cur, h4, h5, h6, h7, h8, h9⟩ := h
  refine ⟨h1, h2, h3, g, h4, h5, fun j x hx => ⟨_, rfl, fun q u hu => ?_⟩⟩
  cases q with
  | succ q => simp at hu
  | zero =>
    simp only [List.getElem?_cons_zero, Option.some.injEq] at hu
    subst hu
    rw [show j * (kI .u8).sz + 0 = j by show j * 1 + 0 = j; omega, add_mk, Nat.zero_add]
    simp only [World.cell?, h6]
    exact h9 j x hx
theorem SH.wm (h : SH r (ownw e A n c xs :: L) w) : SH r (ownm e A n c xs :: L) w := h.imp fun _ h => ownw_imp h
theorem SH.rdw {A : Option Addr} {m c : Nat} {xs : List Int} (h : SH r L w) (i : Nat) (hi : L[i]? = some (ownw e A m c xs)) : Rd (kI .u8) w A xs ∧ xs.length = m ∧ m ≤ c ∧ c ≤ maxLen := by
  obtain ⟨S, h⟩ := h.get i hi
  obtain ⟨h1, h2, h3, g, rfl, h5, h6⟩ := ownw_imp h
  exact ⟨fun _ => ⟨_, rfl, h6⟩, h1, h2, h3⟩
theorem RdL.ownw {A : Option Addr} {m c : Nat} {xs : List Int} (i : Nat) (hi : L[i]? = some (E.ownw e A m c xs)) (h : SH r L w) : RdL L (kI .u8) A m c xs := by
  obtain ⟨S, h0⟩ := h.get i hi
  obtain ⟨h1, h2, h3, g, hA, h5, h6⟩ := ownw_imp h0
  refine ⟨h1, by omega, h3, fun w' S' h' _ => ?_⟩
  obtain ⟨S2, q⟩ := SH.getL i hi h'
  obtain ⟨q1, q2, q3, g2, hA2, q5, q6⟩ := ownw_imp q
  exact ⟨_, hA2, q6⟩
theorem e_s2w (hs : P.underlying yt = some (.slice e)) (he : P.underlying e = some (.int .u8)) (hd : P.underlying xt = some .string) (hS : SH r L w) (ho : o.op = .convert xt yt x) (hx : a.eval x = str s) (hl : s.length ≤ maxLen)
    (hK : ∀ A n c w', SH r (ownw e A n c (stb s) :: L) w' → K (a.put o.dst (.slice A n c)) w') : o.wp P a w K Q := by
  have hsz : (⟨s.toArray⟩ : ByteArray).size = s.length := ba_size s
  have h : (execOp a.eval o).run P w = .ok (.value (.slice (some ⟨w.heap.size, 0, none⟩) s.length (grownCap w s.length 0 e))) (Lib.bytesWorld w e ⟨s.toArray⟩) := by
    unfold execOp; rw [ho]
    simp only [hx, str, Sem.run_bind]
    rw [Lib.run_convert_string_bytes w xt yt e ⟨s.toArray⟩ hd hs he, hsz]
    rfl
  have hcs : s.length ≤ (Lib.bytesCells w e ⟨s.toArray⟩).size := by simp [Lib.bytesCells, hsz]
  unfold Oper.wp
  rw [h]
  refine hK _ _ _ _ (hS.new (w' := Lib.bytesWorld w e ⟨s.toArray⟩) rfl rfl rfl (by rw [Lib.bytesWorld_size]; omega) (fun k hk => Lib.bytesWorld_at_old w e _ k hk) (Ls := [ownw e (some ⟨w.heap.size, 0, none⟩) s.length (grownCap w s.length 0 e) (stb s)]) fun S hS' =>
    ⟨S, fun _ => False, fun _ h => h, fun _ h => h.elim, fun _ _ h => h, ⟨by simp [stb], grownCap_ge w _ _ e, grownCap_le_maxLen w _ _ e hl, _, _, _, rfl, hS' _ (Nat.le_refl _) (by rw [Lib.bytesWorld_size]; omega), Lib.bytesWorld_at_new w e _, hcs, hcs, fun j x hx => ?_⟩, trivial⟩)
  unfold stb at hx
  rw [List.getElem?_map, Option.map_eq_some_iff] at hx
  obtain ⟨b, hb, rfl⟩ := hx
  have hj := (List.getElem?_eq_some_iff.1 hb).1
  have := Lib.bytesWorld_cell w e ⟨s.toArray⟩ j (by rw [hsz]; exact hj)
  have h2 : (Lib.bytesCells w e ⟨s.toArray⟩)[j]? = some (.int .u8 ((s.toArray.toList.getD j 0).toNat)) := by
    rw [← this]; simp only [World.cell?, Lib.bytesWorld_at_new]; rfl
  rw [h2]
  simp [List.getD, hb]
theorem x_s2w {D : List Deferred} {m : Nat} {F : List (Nat × Value)} {q : Nat} (hs : P.underlying yt = some (.slice e)) (he : P.underlying e = some (.int .u8)) (hd' : P.underlying xt = some .string) (hA : FR m D a F) (hS : SH r L w) (hl : s.length ≤ maxLen) (kk : ∀ A n c a' w', SH r (ownw e A n c (stb s) :: L) w' → FR m D a' ((q, .slice A n c) :: F) → wpList P ops Q rest a' w')
    (ho : o.op = .convert xt yt x := by rfl) (hx : ev F x = some (str s) := by rfl) (hd : o.dst = some q := by rfl) (hg : o.guard = none := by rfl) (ht : Nat.blt q m = true := by rfl) : wpList P ops Q (o :: rest) a w :=
  wl_eff hg fun K hK => e_s2w hs he hd' hS ho (hA.ev hx) hl fun A n c w' hS' => hK _ _ (kk A n c _ w' hS' (put_ hA hd ht _))
theorem z_s2w {D : List Deferred} {m : Nat} {F : List (Nat × Value)} (hs : P.underlying yt = some (.slice e)) (he : P.underlying e = some (.int .u8)) (hd' : P.underlying xt = some .string) (hA : FR m D a F) (hS : SH r L w) (hl : s.length ≤ maxLen) (kk : ∀ A n c w', SH r (ownw e A n c (stb s) :: L) w' → K (a.put o.dst (.slice A n c)) w')
    (ho : o.op = .convert xt yt x := by rfl) (hx : ev F x = some (str s) := by rfl) : o.wp P a w K Q := e_s2w hs he hd' hS ho (hA.ev hx) hl kk
theorem e_stw (i : Nat) {j : Nat} {z : Int} (hS : SH r L w) (hL : pk i L = ownw e A n c xs :: L') (hj : j < xs.length) (ho : o.op = .store t x y) (hx : a.eval x = .pointer (some (ea A (j * 1)))) (hy : a.eval y = .int .u8 z) (hi : (P.info? t).map (·.size) = some 1)
    (hK : ∀ w', SH r (ownw e A n c (xs.set j z) :: L') w' → K (a.put o.dst undef) w') : o.wp P a w K Q := by
  have hS' := hS.pk i
  rw [hL] at hS'
  obtain ⟨S1, S2, q1, q2, hd, ⟨h1, h2, h3, g, k, cur, hA, h5, h6, h7, h8, h9⟩, hsep⟩ := hS'.sep
  subst hA
  have hjc : j < cur.size := by omega
  have hcell : w.cell? ⟨g, j, none⟩ = some cur[j] := by simp [World.cell?, h6, hjc]
  have hfro : w.frozen? ⟨g, j, none⟩ = false := by simp [World.frozen?, h6]; omega
  have hx' : a.eval x = .pointer (some ⟨g, j, none⟩) := by rw [hx]; simp [ea, add_mk]
  obtain ⟨inf, hi1, hi2⟩ := Option.map_eq_some_iff.1 hi
  have hst : (store ⟨g, j, none⟩ (.int .u8 z)).run P w = .ok () (w.setRow g (cur.setIfInBounds j (.int .u8 z))) := by
    rw [run_store P w _ _ _ (by simp [Value.oneCell']), hcell]
    simp [hfro, setCell_eq_setRow w g j cur e (k, k + 1) _ h6]
  have hrun : (storeVar t ⟨g, j, none⟩ (.int .u8 z)).run P w = .ok () (w.setRow g (cur.setIfInBounds j (.int .u8 z))) := by
    simp [storeVar, sizeOf, typeInfo, hi1, hi2, Value.cells, storeCells, hst, Addr.add]
  have h : (execOp a.eval o).run P w = .ok .skip (w.setRow g (cur.setIfInBounds j (.int .u8 z))) := by
    unfold execOp; rw [ho]
    simp only [hx', hy, Instr.storeAt, Instr.sureAddr, Sem.run_bind, Sem.run_pure, Result.andThen_ok, hrun]
  unfold Oper.wp
  rw [h]
  refine hK _ (hS'.upd (w' := w.setRow g (cur.setIfInBounds j (.int .u8 z))) q1 q2 hd hsep rfl rfl rfl (by simp [World.setRow]) (fun q hq hq1 => setRow_other fun e => hq1 (by rw [e]; exact h5)) (Ls := [ownw e (some ⟨g, 0, none⟩) n c (xs.set j z)]) fun S hS1 _ _ =>
    ⟨S, fun _ => False, fun _ h => h, fun _ h => h.elim, fun _ _ h => h, ⟨by simpa using h1, h2, h3, g, k, _, rfl, hS1 _ h5, setRow_heap w g _ _ e (k, k + 1) h6, h7, by simpa using h8, fun q u hu => ?_⟩, trivial⟩)
  rw [List.getElem?_set] at hu
  rw [Array.getElem?_setIfInBounds]
  split at hu
  · rename_i e1
    subst e1
    cases hu
    rw [if_pos rfl, if_pos hjc]
  · rename_i e1
    rw [if_neg e1]
    exact h9 q u hu
theorem x_stw {D : List Deferred} {m : Nat} {F : List (Nat × Value)} (i : Nat) {j : Int} {u z : Int} (hi : (P.info? t).map (·.size) = some 1) (hA : FR m D a F) (hS : SH r L w) (hL : pk i L = ownw e A n c xs :: L') (hj : at_ xs j = some u)
    (kk : ∀ a' w', SH r (ownw e A n c (xs.set j.toNat z) :: L') w' → FR m D a' F → wpList P ops Q rest a' w')
    (ho : o.op = .store t x y := by rfl) (hx : ev F x = some (.pointer (some (ea A (j.toNat * 1)))) := by rfl) (hy : ev F y = some (.int .u8 z) := by rfl) (hd : o.dst = none := by rfl) (hg : o.guard = none := by rfl) : wpList P ops Q (o :: rest) a w :=
  wl_eff hg fun K hK => e_stw i hS hL (by have := at_some hj; omega) ho (hA.ev hx) (hA.ev hy) hi fun w' hS' => hK _ _ (kk _ w' hS' (by rw [hd]; exact hA))
theorem z_stw {D : List Deferred} {m : Nat} {F : List (Nat × Value)} (i : Nat) {j : Int} {u z : Int} (hi : (P.info? t).map (·.size) = some 1) (hA : FR m D a F) (hS : SH r L w) (hL : pk i L = ownw e A n c xs :: L') (hj : at_ xs j = some u)
    (kk : ∀ w', SH r (ownw e A n c (xs.set j.toNat z) :: L') w' → K (a.put o.dst undef) w')
    (ho : o.op = .store t x y := by rfl) (hx : ev F x = some (.pointer (some (ea A (j.toNat * 1)))) := by rfl) (hy : ev F y = some (.int .u8 z) := by rfl) : o.wp P a w K Q :=
  e_stw i hS hL (by have := at_some hj; omega) ho (hA.ev hx) (hA.ev hy) hi kk
end

/-! arrays -/
section
variable {P : Program} {ops : Array Oper} {Q : Exit → Act → World → Prop} {rest : List Oper} {o : Oper} {a : Act} {w : World} {r : World} {L : List HP} {t e T t' : TypeId} {x y : Operand} {α : Type} {d : Kd α} {xs : List α} {k : IntKind} {i : Int}
theorem blk_own {g : Nat} {cells : List Value} {m : Nat} (hL : Lay d xs cells) (hm : xs.length = m) (hmx : Nat.ble m 65536 = true) (h : SH r (blk g T cells :: L) w) : SH r (own d T (some ⟨g, 0, none⟩) m m xs :: L) w := by
  have := Nat.le_of_ble_eq_true hmx
  have hl := hL.length
  refine h.imp fun S hS => own_new hS.2 hS.1 hm (by omega) (by simp only [maxLen]; omega) (by simp [hl, hm]) ?_
  rw [← hl]
  simpa using hL
theorem r_iaA {g m sz : Nat} (hu : P.underlying t = some (.array m e)) (hi : (P.info? e).map (·.size) = some sz) (ho : o.op = .indexAddr t x y) (hx : a.eval x = .pointer (some ⟨g, 0, none⟩)) (hy : a.eval y = .int k i)
    (h0 : 0 ≤ i) (h1 : i < (m : Int)) : RunV P o a w (.pointer (some (ea (some ⟨g, 0, none⟩) (i.toNat * sz)))) := by
  unfold RunV execOp; rw [ho]
  obtain ⟨q, hq1, hq2⟩ := Option.map_eq_some_iff.1 hi
  simp [hx, hy, Instr.indexAt, asIntOf, run_underlying hu, h0, h1, sizeOf, typeInfo, hq1, hq2, ea, Instr.sureAddr]
theorem y_iaA {D : List Deferred} {n : Nat} {F : List (Nat × Value)} {g m c sz : Nat} {z : α} (hu : P.underlying t = some (.array m e)) (hi : (P.info? e).map (·.size) = some sz) (hr : Rd d w (some ⟨g, 0, none⟩) xs ∧ xs.length = m ∧ m ≤ c ∧ c ≤ maxLen) (hz : at_ xs i = some z) (hA : FR n D a F)
    (ho : o.op = .indexAddr t x y := by rfl) (hx : ev F x = some (.pointer (some ⟨g, 0, none⟩)) := by rfl) (hy : ev F y = some (.int k i) := by rfl) : RunV P o a w (.pointer (some (ea (some ⟨g, 0, none⟩) (i.toNat * sz)))) :=
  have h := at_some hz
  r_iaA hu hi ho (hA.ev hx) (hA.ev hy) h.1 (by have := hr.2.1; omega)
theorem x_iaA {D : List Deferred} {n q : Nat} {F : List (Nat × Value)} {g m c sz : Nat} {z : α} (hu : P.underlying t = some (.array m e)) (hi : (P.info? e).map (·.size) = some sz) (hr : Rd d w (some ⟨g, 0, none⟩) xs ∧ xs.length = m ∧ m ≤ c ∧ c ≤ maxLen) (hz : at_ xs i = some z) (hA : FR n D a F)
    (kk : ∀ a', FR n D a' ((q, .pointer (some (ea (some ⟨g, 0, none⟩) (i.toNat * sz)))) :: F) → wpList P ops Q rest a' w)
    (ho : o.op = .indexAddr t x y := by rfl) (hx : ev F x = some (.pointer (some ⟨g, 0, none⟩)) := by rfl) (hy : ev F y = some (.int k i) := by rfl) (hd : o.dst = some q := by rfl) (hg : o.guard = none := by rfl) (ht : Nat.blt q n = true := by rfl) : wpList P ops Q (o :: rest) a w :=
  x_val hA (y_iaA hu hi hr hz hA ho hx hy) kk hd hg ht
/-- a kind of rows whose zone grew -/
theorem kM_map {α : Type} {Z Z' : Nat → Prop} {wz wz' : World} {d d' : Kd α} (hs : Sub Z wz Z' wz') (hz : d.sz = d'.sz) (hd : ∀ x cs, d.V x cs → d'.V x cs) (x : List α) (cs : List Value) (h : (kM Z wz d).V x cs) : (kM Z' wz' d').V x cs := by
  obtain ⟨A, n, c, h, hI⟩ := h
  exact ⟨A, n, c, h, (hI.sub hs).kind hz hd⟩
end
end Go.Proofs.Ytgjhiojkkjaloaa.E
