/- A row of bytes out of a string, converted to its own type: marked, read as it was. -/
import Derived.Test.YtgjhiojkkjaloaaEn
namespace Go.Proofs.Ytgjhiojkkjaloaa.E
open Go Go.RowKit
set_option linter.unusedVariables false
set_option linter.unusedSimpArgs false
theorem freeze_cell (w : World) (a : Addr) (k : Nat) (b : Addr) : (w.freeze a k).cell? b = w.cell? b := by
  unfold World.freeze
  split
  · rfl
  · by_cases h : b.block = a.block
    · simp only [World.cell?, Array.getElem?_modify, h, if_true]
      cases hh : w.heap[a.block]? with
      | none => rfl
      | some ob => cases ob <;> rfl
    · simp only [World.cell?, Array.getElem?_modify]
      rw [if_neg (fun q => h q.symm)]
theorem freeze_other (w : World) (a : Addr) (k j : Nat) (h : j ≠ a.block) : (w.freeze a k).heap[j]? = w.heap[j]? := by
  unfold World.freeze
  split
  · rfl
  · simp only [Array.getElem?_modify]
    rw [if_neg (fun q => h q.symm)]
section
variable {P : Program} {ops : Array Oper} {Q : Exit → Act → World → Prop} {rest : List Oper} {o : Oper} {a : Act} {w : World} {K : Act → World → Prop} {r : World} {L L' : List HP} {t e : TypeId} {x : Operand} {A : Option Addr} {n c : Nat} {xs : List Int}
theorem run_cvM (ht : P.underlying t = some (.slice e)) (he : P.underlying e = some (.int .u8)) (g n c : Nat) : ∃ w', (convert t t (.slice (some ⟨g, 0, none⟩) n c)).run P w = .ok (.slice (some ⟨g, 0, none⟩) n c) w' ∧ (w' = w ∨ ∃ k, w' = w.freeze ⟨g, k, none⟩ 1) := by
  cases hs : w.shape? g with
  | none => exact ⟨w, by simp [convert, run_underlying ht, run_underlying he, markStringish, hs], .inl rfl⟩
  | some q => exact ⟨_, by simp [convert, run_underlying ht, run_underlying he, markStringish, hs], .inr ⟨q.2, rfl⟩⟩
theorem e_cvM (i : Nat) (hS : SH r L w) (hL : pk i L = ownm e A n c xs :: L') (ht : P.underlying t = some (.slice e)) (he : P.underlying e = some (.int .u8)) (ho : o.op = .convert t t x) (hx : a.eval x = .slice A n c)
    (hK : ∀ w', SH r (ownm e A n c xs :: L') w' → K (a.put o.dst (.slice A n c)) w') : o.wp P a w K Q := by
  have hS' := hS.pk i
  rw [hL] at hS'
  obtain ⟨S1, S2, h1, h2, hd, ⟨hn, hnc, hcm, g, rfl, hSg, hR⟩, hsep⟩ := hS'.sep
  obtain ⟨w', hrun, hw⟩ := run_cvM (w := w) ht he g n c
  have h : (execOp a.eval o).run P w = .ok (.value (.slice (some ⟨g, 0, none⟩) n c)) w' := by
    unfold execOp; rw [ho]
    simp only [hx, Sem.run_bind, hrun]
    rfl
  unfold Oper.wp
  rw [h]
  rcases hw with rfl | ⟨k, rfl⟩
  · exact hK _ hS'
  · refine hK _ (hS'.upd (w' := w.freeze ⟨g, k, none⟩ 1) h1 h2 hd hsep rfl rfl rfl (by simp [World.freeze]) (fun j hj hj1 => freeze_other w _ 1 j fun e => hj1 (by rw [e]; exact hSg)) (Ls := [ownm e (some ⟨g, 0, none⟩) n c xs]) fun S hS1 _ _ =>
      ⟨S, fun _ => False, fun _ h => h, fun _ h => h.elim, fun _ _ h => h, ⟨hn, hnc, hcm, g, rfl, hS1 _ hSg, fun j x hx => ?_⟩, trivial⟩)
    obtain ⟨cs, hV, hc⟩ := hR j x hx
    exact ⟨cs, hV, fun q u hu => by rw [freeze_cell]; exact hc q u hu⟩
theorem z_cvM {D : List Deferred} {m : Nat} {F : List (Nat × Value)} (i : Nat) (ht : P.underlying t = some (.slice e)) (he : P.underlying e = some (.int .u8)) (hA : FR m D a F) (hS : SH r L w) (hL : pk i L = ownm e A n c xs :: L') (kk : ∀ w', SH r (ownm e A n c xs :: L') w' → K (a.put o.dst (.slice A n c)) w')
    (ho : o.op = .convert t t x := by rfl) (hx : ev F x = some (.slice A n c) := by rfl) : o.wp P a w K Q := e_cvM i hS hL ht he ho (hA.ev hx) kk
theorem x_cvM {D : List Deferred} {m q : Nat} {F : List (Nat × Value)} (i : Nat) (ht : P.underlying t = some (.slice e)) (he : P.underlying e = some (.int .u8)) (hA : FR m D a F) (hS : SH r L w) (hL : pk i L = ownm e A n c xs :: L')
    (kk : ∀ a' w', SH r (ownm e A n c xs :: L') w' → FR m D a' ((q, .slice A n c) :: F) → wpList P ops Q rest a' w')
    (ho : o.op = .convert t t x := by rfl) (hx : ev F x = some (.slice A n c) := by rfl) (hd : o.dst = some q := by rfl) (hg : o.guard = none := by rfl) (hb : Nat.blt q m = true := by rfl) : wpList P ops Q (o :: rest) a w :=
  wl_eff hg fun K hK => e_cvM i hS hL ht he ho (hA.ev hx) fun w' hS' => hK _ _ (kk _ w' hS' (put_ hA hd hb _))
theorem own_ownm (hn : 0 < n) (h : SH r (own (kI .u8) e A n c xs :: L) w) : SH r (ownm e A n c xs :: L) w := by
  refine h.imp fun S hS => ?_
  have hle := own_le hS
  have hrd := own_rd hS (by rw [hS.1]; exact hn)
  obtain ⟨hl, ⟨inner, hL, ho⟩, hSo⟩ := hS
  obtain ⟨g, hA, _, _⟩ := ownsRow_reads ho (by omega)
  subst hA
  obtain ⟨ad, hA, hra⟩ := hrd
  cases hA
  exact ⟨hl, by omega, hle.2, g, rfl, hSo g rfl, hra⟩
end
end Go.Proofs.Ytgjhiojkkjaloaa.E
