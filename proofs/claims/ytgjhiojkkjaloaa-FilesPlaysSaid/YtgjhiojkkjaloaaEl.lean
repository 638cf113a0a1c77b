/- The engine's steps on whole rows. -/
import Derived.Test.YtgjhiojkkjaloaaEk
namespace Go.Proofs.Ytgjhiojkkjaloaa.E
open Go Go.RowKit Go.Lib
set_option linter.unusedVariables false
set_option linter.unusedSimpArgs false
section
variable {P : Program} {ops : Array Oper} {Q : Exit → Act → World → Prop} {rest : List Oper} {o : Oper} {a : Act} {w w' : World} {K : Act → World → Prop} {r : World} {L : List HP} {α : Type} {d : Kd α} {e t' t2 : TypeId} {n : Nat} {D : List Deferred} {t : Nat} {v : Value} {F : List (Nat × Value)}
  {c g k : Nat} {os : List (Option α)} {x y lo_ hi_ mx_ : Operand} {A A2 : Option Addr} {n1 c1 n2 c2 : Nat} {xs ys : List α} {L' : List HP}

theorem put_ (hA : FR n D a F) (hd : o.dst = some t) (ht : Nat.blt t n = true) (v : Value) : FR n D (a.put o.dst v) ((t, v) :: F) := by
  rw [hd]; exact hA.put t _ (by have := Nat.le_of_ble_eq_true ht; omega)

theorem cpk {dp dl : Nat} (h1 : ys.length = n2) (h2 : dp = dl) : (ys.take (min ys.length dp)).length = min n2 dl := by subst h1 h2; rw [List.length_take]; omega
theorem Rd.take_ {d : Kd α} (h : Rd d w A ys) (k : Nat) : Rd d w A (ys.take k) := by
  intro hpos
  obtain ⟨ad, e, hr⟩ := h (by rw [List.length_take] at hpos; omega)
  exact ⟨ad, e, hr.take k⟩
theorem e_cpR (i : Nat) {lo dl dc : Nat} {zs : List α} (hS : SH r L w) (hL : pk i L = row d e g c os :: L') (ht : P.underlying t' = some (.slice e)) (hi : (P.info? e).map (·.size) = some d.sz)
    (ho : o.op = .call { callee := .builtin .copy, args := #[x, y], argTypes := #[t', t2] }) (hx : a.eval x = .slice (some ⟨g, lo * d.sz, none⟩) dl dc) (hy : a.eval y = .slice A2 n2 c2) (hr : Rd d w A2 zs) (hz : zs.length = min n2 dl) (hk : 0 < zs.length ∧ lo + zs.length ≤ c)
    (hK : ∀ v w', SH r (row d e g c (os.take lo ++ zs.map some ++ os.drop (lo + zs.length)) :: L') w' → K (a.put o.dst v) w') : o.wp P a w K Q := by
  have e1 : zs.take (min n2 dl) = zs := List.take_of_length_le (by omega)
  refine e_copy (ys := zs) i hS hL ht hi ho hx hy (by rw [e1]; exact hr) (by omega) (by omega) (by omega) fun v w' hS' => hK v w' ?_
  rw [e1, ← hz] at hS'
  exact hS'
theorem e_cpO (i : Nat) {lo dl dc : Nat} {zs : List α} (hS : SH r L w) (hL : pk i L = own d e (some ⟨g, 0, none⟩) n1 c xs :: L') (ht : P.underlying t' = some (.slice e)) (hi : (P.info? e).map (·.size) = some d.sz)
    (ho : o.op = .call { callee := .builtin .copy, args := #[x, y], argTypes := #[t', t2] }) (hx : a.eval x = .slice (some ⟨g, lo * d.sz, none⟩) dl dc) (hy : a.eval y = .slice A2 n2 c2) (hr : Rd d w A2 zs) (hz : zs.length = min n2 dl) (hk : 0 < zs.length ∧ lo + zs.length ≤ xs.length)
    (hK : ∀ v w', SH r (own d e (some ⟨g, 0, none⟩) n1 c (xs.take lo ++ zs ++ xs.drop (lo + zs.length)) :: L') w' → K (a.put o.dst v) w') : o.wp P a w K Q := by
  have e1 : zs.take (min n2 dl) = zs := List.take_of_length_le (by omega)
  refine e_copy_own (ys := zs) i hS hL ht hi ho hx hy (by rw [e1]; exact hr) (by omega) (by omega) (by omega) fun v w' hS' => hK v w' ?_
  rw [e1, ← hz] at hS'
  exact hS'
theorem z_cpR (i : Nat) {lo dl dc : Nat} {zs : List α} (ht : P.underlying t' = some (.slice e)) (hi : (P.info? e).map (·.size) = some d.sz) (hA : FR n D a F) (hS : SH r L w) (hr : Rd d w A2 zs) (hz : zs.length = min n2 dl) (hk : 0 < zs.length ∧ lo + zs.length ≤ c) (hL : pk i L = row d e g c os :: L')
    (kk : ∀ v w', SH r (row d e g c (os.take lo ++ zs.map some ++ os.drop (lo + zs.length)) :: L') w' → K (a.put o.dst v) w')
    (ho : o.op = .call { callee := .builtin .copy, args := #[x, y], argTypes := #[t', t2] } := by rfl) (hx : ev F x = some (.slice (some ⟨g, lo * d.sz, none⟩) dl dc) := by rfl) (hy : ev F y = some (.slice A2 n2 c2) := by rfl) : o.wp P a w K Q :=
  e_cpR i hS hL ht hi ho (hA.ev hx) (hA.ev hy) hr hz hk kk
theorem x_cpR (i : Nat) {lo dl dc : Nat} {zs : List α} (ht : P.underlying t' = some (.slice e)) (hi : (P.info? e).map (·.size) = some d.sz) (hA : FR n D a F) (hS : SH r L w) (hr : Rd d w A2 zs) (hz : zs.length = min n2 dl) (hk : 0 < zs.length ∧ lo + zs.length ≤ c) (hL : pk i L = row d e g c os :: L')
    (kk : ∀ v a' w', SH r (row d e g c (os.take lo ++ zs.map some ++ os.drop (lo + zs.length)) :: L') w' → FR n D a' ((t, v) :: F) → wpList P ops Q rest a' w')
    (ho : o.op = .call { callee := .builtin .copy, args := #[x, y], argTypes := #[t', t2] } := by rfl) (hx : ev F x = some (.slice (some ⟨g, lo * d.sz, none⟩) dl dc) := by rfl) (hy : ev F y = some (.slice A2 n2 c2) := by rfl) (hd : o.dst = some t := by rfl) (hg : o.guard = none := by rfl) (hb : Nat.blt t n = true := by rfl) : wpList P ops Q (o :: rest) a w :=
  wl_eff hg fun K hK => e_cpR i hS hL ht hi ho (hA.ev hx) (hA.ev hy) hr hz hk fun v w' hS' => hK _ _ (kk v _ w' hS' (put_ hA hd hb v))
theorem z_cpO (i : Nat) {lo dl dc : Nat} {zs : List α} (ht : P.underlying t' = some (.slice e)) (hi : (P.info? e).map (·.size) = some d.sz) (hA : FR n D a F) (hS : SH r L w) (hr : Rd d w A2 zs) (hz : zs.length = min n2 dl) (hk : 0 < zs.length ∧ lo + zs.length ≤ xs.length) (hL : pk i L = own d e (some ⟨g, 0, none⟩) n1 c xs :: L')
    (kk : ∀ v w', SH r (own d e (some ⟨g, 0, none⟩) n1 c (xs.take lo ++ zs ++ xs.drop (lo + zs.length)) :: L') w' → K (a.put o.dst v) w')
    (ho : o.op = .call { callee := .builtin .copy, args := #[x, y], argTypes := #[t', t2] } := by rfl) (hx : ev F x = some (.slice (some ⟨g, lo * d.sz, none⟩) dl dc) := by rfl) (hy : ev F y = some (.slice A2 n2 c2) := by rfl) : o.wp P a w K Q :=
  e_cpO i hS hL ht hi ho (hA.ev hx) (hA.ev hy) hr hz hk kk
theorem x_cpO (i : Nat) {lo dl dc : Nat} {zs : List α} (ht : P.underlying t' = some (.slice e)) (hi : (P.info? e).map (·.size) = some d.sz) (hA : FR n D a F) (hS : SH r L w) (hr : Rd d w A2 zs) (hz : zs.length = min n2 dl) (hk : 0 < zs.length ∧ lo + zs.length ≤ xs.length) (hL : pk i L = own d e (some ⟨g, 0, none⟩) n1 c xs :: L')
    (kk : ∀ v a' w', SH r (own d e (some ⟨g, 0, none⟩) n1 c (xs.take lo ++ zs ++ xs.drop (lo + zs.length)) :: L') w' → FR n D a' ((t, v) :: F) → wpList P ops Q rest a' w')
    (ho : o.op = .call { callee := .builtin .copy, args := #[x, y], argTypes := #[t', t2] } := by rfl) (hx : ev F x = some (.slice (some ⟨g, lo * d.sz, none⟩) dl dc) := by rfl) (hy : ev F y = some (.slice A2 n2 c2) := by rfl) (hd : o.dst = some t := by rfl) (hg : o.guard = none := by rfl) (hb : Nat.blt t n = true := by rfl) : wpList P ops Q (o :: rest) a w :=
  wl_eff hg fun K hK => e_cpO i hS hL ht hi ho (hA.ev hx) (hA.ev hy) hr hz hk fun v w' hS' => hK _ _ (kk v _ w' hS' (put_ hA hd hb v))
theorem x_clR0 (i : Nat) {lo m mc : Nat} {z : Value} {z0 : α} (ht : P.underlying t' = some (.slice e)) (hi : (P.info? e).bind (·.zero) = some z) (hz : d.V z0 z.cells.toList) (hA : FR n D a F) (hS : SH r L w) (hm : 0 < m ∧ lo + m ≤ c) (hL : pk i L = row d e g c os :: L')
    (kk : ∀ a' w', SH r (row d e g c (os.take lo ++ (List.replicate m z0).map some ++ os.drop (lo + m)) :: L') w' → FR n D a' F → wpList P ops Q rest a' w')
    (ho : o.op = .call { callee := .builtin .clear, args := #[x], argTypes := #[t'] } := by rfl) (hx : ev F x = some (.slice (some ⟨g, lo * d.sz, none⟩) m mc) := by rfl) (hd : o.dst = none := by rfl) (hg : o.guard = none := by rfl) : wpList P ops Q (o :: rest) a w :=
  wl_eff hg fun K hK => e_clear i hS hL ht hi hz ho (hA.ev hx) hm.1 hm.2 fun v w' hS' => hK _ _ (kk _ w' hS' (by rw [hd]; exact hA))
theorem z_apR (i : Nat) (ht : P.underlying t' = some (.slice e)) (hi : (P.info? e).map (·.size) = some d.sz) (hA : FR n D a F) (hS : SH r L w) (hr : Rd d w A2 ys) (hn2 : ys.length = n2) (hk : k + n2 ≤ c) (hL : pk i L = row d e g c os :: L')
    (kk : ∀ w', SH r (row d e g c (os.take k ++ ys.map some ++ os.drop (k + n2)) :: L') w' → K (a.put o.dst (.slice (some ⟨g, 0, none⟩) (k + n2) c)) w')
    (ho : o.op = .call { callee := .builtin .append, args := #[x, y], argTypes := #[t', t'] } := by rfl) (hx : ev F x = some (.slice (some ⟨g, 0, none⟩) k c) := by rfl) (hy : ev F y = some (.slice A2 n2 c2) := by rfl) : o.wp P a w K Q :=
  e_append_row i hS hL ht hi ho (hA.ev hx) (hA.ev hy) hr hn2 hk kk
theorem x_apR (i : Nat) (ht : P.underlying t' = some (.slice e)) (hi : (P.info? e).map (·.size) = some d.sz) (hA : FR n D a F) (hS : SH r L w) (hr : Rd d w A2 ys) (hn2 : ys.length = n2) (hk : k + n2 ≤ c) (hL : pk i L = row d e g c os :: L')
    (kk : ∀ a' w', SH r (row d e g c (os.take k ++ ys.map some ++ os.drop (k + n2)) :: L') w' → FR n D a' ((t, .slice (some ⟨g, 0, none⟩) (k + n2) c) :: F) → wpList P ops Q rest a' w')
    (ho : o.op = .call { callee := .builtin .append, args := #[x, y], argTypes := #[t', t'] } := by rfl) (hx : ev F x = some (.slice (some ⟨g, 0, none⟩) k c) := by rfl) (hy : ev F y = some (.slice A2 n2 c2) := by rfl) (hd : o.dst = some t := by rfl) (hg : o.guard = none := by rfl) (hb : Nat.blt t n = true := by rfl) : wpList P ops Q (o :: rest) a w :=
  wl_eff hg fun K hK => e_append_row i hS hL ht hi ho (hA.ev hx) (hA.ev hy) hr hn2 hk fun w' hS' => hK _ _ (kk _ w' hS' (put_ hA hd hb _))
theorem x_apZ {m : Int} {kq kn : IntKind} {bytes : Nat} {z : Value} (z0 : α) (ht : P.underlying t' = some (.slice e)) (htn : P.underlying t2 = some (.int kn)) (hi : (P.info? e).map (fun i => (i.zero, i.size, i.bytes)) = some (some z, d.sz, bytes)) (hz : d.V z0 z.cells.toList) (hA : FR n D a F) (hS : SH r L w)
    (hr : Rd d w A ys) (hk : ys.length = k) (h0 : 0 < m ∧ c < k + m.toNat ∧ (k + m.toNat) * bytes ≤ 140737488355328)
    (kk : ∀ g' c' a' w', SH r (own d e (some ⟨g', 0, none⟩) (k + m.toNat) c' (ys ++ List.replicate m.toNat z0) :: L) w' → FR n D a' ((t, .slice (some ⟨g', 0, none⟩) (k + m.toNat) c') :: F) → wpList P ops Q rest a' w')
    (hs : Nat.blt 0 d.sz = true := by rfl) (hbp : Nat.blt 0 bytes = true := by rfl) (ho : o.op = .call { callee := .builtin .append, args := #[x, y], argTypes := #[t', t2] } := by rfl) (hx : ev F x = some (.slice A k c) := by rfl) (hy : ev F y = some (.int kq m) := by rfl) (hd : o.dst = some t := by rfl) (hg : o.guard = none := by rfl) (hb : Nat.blt t n = true := by rfl) : wpList P ops Q (o :: rest) a w :=
  wl_eff hg fun K hK => e_append_zeros (kq := kq) hS ht htn hi hz ho (hA.ev hx) (by rw [hA.ev hy, Int.toNat_of_nonneg (by omega)]) hr hk (by omega) (by have := Nat.le_of_ble_eq_true hs; omega) h0.2.1 h0.2.2 (by have := Nat.le_of_ble_eq_true hbp; omega) fun g' c' w' hS' => hK _ _ (kk g' c' _ w' hS' (put_ hA hd hb _))

theorem r_extw {f : FuncId} {as : Array Operand} {ts : Array TypeId} {vals : Array Value} (hf : (callFunc f vals).run P w = .ok (.value v) w) (ho : o.op = .call { callee := .value (.func f), args := as, argTypes := ts }) (hargs : as.map a.eval = vals) : RunV P o a w v := by
  unfold RunV execOp; rw [ho]
  simp only [resolve, Act.eval, Deferred.ofValue, Sem.run_bind, Sem.run_pure, Result.andThen_ok, invoke, hargs]
  simpa using hf
theorem sep_ne {B C : HP} : ∀ {i j : Nat} {L : List HP} {S : Nat → Prop}, i ≠ j → L[i]? = some B → L[j]? = some C → Sep L w S → ∃ S1 S2 : Nat → Prop, B.P w S1 ∧ C.P w S2 ∧ ∀ k, S1 k → ¬ S2 k
  | _, _, [], S, _, hi, _, _ => by simp at hi
  | 0, 0, _ :: _, _, h, _, _, _ => absurd rfl h
  | 0, j + 1, A :: L, S, _, hi, hj, ⟨S1, S2, h1, h2, hd, hA, hL⟩ => by
    cases hi
    obtain ⟨S3, hC⟩ := SH.getL j (by simpa using hj) hL
    have : ∃ S4, (∀ k, S4 k → S2 k) ∧ C.P w S4 := by
      clear hA hC
      have key : ∀ (L : List HP) (j : Nat) (S : Nat → Prop), L[j]? = some C → Sep L w S → ∃ S4, (∀ k, S4 k → S k) ∧ C.P w S4 := by
        intro L
        induction L with
        | nil => intro j S hj; simp at hj
        | cons D L ih =>
          intro j S hj hs
          obtain ⟨T1, T2, g1, g2, gd, hD, hL⟩ := hs
          cases j with
          | zero => cases hj; exact ⟨T1, g1, hD⟩
          | succ j => obtain ⟨S4, q1, q2⟩ := ih j T2 (by simpa using hj) hL; exact ⟨S4, fun k h => g2 k (q1 k h), q2⟩
      exact key L j S2 (by simpa using hj) hL
    obtain ⟨S4, h4, hC4⟩ := this
    exact ⟨S1, S4, hA, hC4, fun k q q4 => hd k q (h4 k q4)⟩
  | i + 1, 0, A :: L, S, _, hi, hj, ⟨S1, S2, h1, h2, hd, hA, hL⟩ => by
    cases hj
    have key : ∀ (L : List HP) (j : Nat) (S : Nat → Prop), L[j]? = some B → Sep L w S → ∃ S4, (∀ k, S4 k → S k) ∧ B.P w S4 := by
      intro L
      induction L with
      | nil => intro j S hj; simp at hj
      | cons D L ih =>
        intro j S hj hs
        obtain ⟨T1, T2, g1, g2, gd, hD, hL⟩ := hs
        cases j with
        | zero => cases hj; exact ⟨T1, g1, hD⟩
        | succ j => obtain ⟨S4, q1, q2⟩ := ih j T2 (by simpa using hj) hL; exact ⟨S4, fun k h => g2 k (q1 k h), q2⟩
    obtain ⟨S4, h4, hB4⟩ := key L i S2 (by simpa using hi) hL
    exact ⟨S4, S1, hB4, hA, fun k q4 q => hd k q (h4 k q4)⟩
  | i + 1, j + 1, A :: L, S, h, hi, hj, ⟨S1, S2, h1, h2, hd, hA, hL⟩ => sep_ne (i := i) (j := j) (by omega) (by simpa using hi) (by simpa using hj) hL
theorem ov_apart {tS tR : TypeId} {lb cb off : Nat} (hu : P.underlying tS = some (.slice e)) (hi : (P.info? e).map (·.size) = some d.sz) (hS : SH r L w) (i j : Nat) (hi1 : L[i]? = some (own d e A2 n2 c2 ys)) (hj : L[j]? = some (row d e g c os)) (hne : i ≠ j) (hk : 0 < ys.length ∧ 0 < c) (hs : Nat.blt 0 d.sz = true := by rfl) :
    (Extern.SlicesOverlaps.overlaps #[tS, tS] #[tR] #[.slice A2 n2 c2, .slice (some ⟨g, off, none⟩) lb cb]).run P w = .ok (.bool false) w := by
  obtain ⟨S1, S2, hB, ⟨⟨hg, hl, hcm⟩, cur, hh, hLO⟩, hd⟩ := sep_ne hne hi1 hj hS.sep
  obtain ⟨hn, ⟨inner, hLy, ho⟩, hSo⟩ := hB
  subst hn
  obtain ⟨inf, hi2, hi3⟩ := Option.map_eq_some_iff.1 hi
  rcases ho.2 with ⟨_, h0⟩ | ⟨g2, cap, cur2, hv, _, hh2, hnc, hcm2, hs2, ht2⟩
  · omega
  · injection hv with hA _ hc'
    subst hA hc'
    have hgg : g2 ≠ g := fun e => hd g2 (hSo g2 rfl) (by rw [e]; exact hg)
    have hcs : cur.size = c * d.sz := by have := hLO.length; rw [hl] at this; simpa using this
    have hd0 : 0 < d.sz := by have := Nat.le_of_ble_eq_true hs; omega
    have : 0 < c * d.sz := Nat.mul_pos hk.2 hd0
    exact run_overlaps_apart w tS tR e hu inf.size (fun w => by simp [sizeOf, typeInfo, hi2]) ⟨g2, 0, none⟩ ⟨g, off, none⟩ ys.length c2 lb cb hgg e e cur2.size cur.size (by simp [World.shape?, hh2]) (by simp [World.shape?, hh]) (by omega) (by simp [World.frozen?, hh2]) (by simp [World.frozen?, hh2])

/-! slices of a row, their address told -/
section
variable {lo sz : Nat} {l u mx : Int} {kl kh km : IntKind} {m : Nat} (hu : P.underlying t' = some (.slice e)) (hi' : (P.info? e).map (·.size) = some sz)
include hu hi'
theorem r_row_lh (ho : o.op = .slice t' x (some lo_) (some hi_) none) (hx : a.eval x = .slice (some ⟨g, lo * sz, none⟩) m c) (hl : a.eval lo_ = .int kl l) (hh : a.eval hi_ = .int kh u) (h : 0 ≤ l ∧ l < u ∧ u ≤ (c : Int)) :
    RunV P o a w (.slice (some ⟨g, (lo + l.toNat) * sz, none⟩) (u.toNat - l.toNat) (c - l.toNat)) := by
  have := r_slice_lh (w := w) hu hi' ho hx hl hh h.1 (by omega) h.2.2
  rwa [slv (by omega)] at this
theorem r_row_l (ho : o.op = .slice t' x (some lo_) none none) (hx : a.eval x = .slice (some ⟨g, lo * sz, none⟩) m c) (hl : a.eval lo_ = .int kl l) (h : 0 ≤ l ∧ l < (m : Int) ∧ m ≤ c) :
    RunV P o a w (.slice (some ⟨g, (lo + l.toNat) * sz, none⟩) (m - l.toNat) (c - l.toNat)) := by
  have := r_slice_l (w := w) hu hi' ho hx hl h.1 (by omega)
  rwa [slv (by omega)] at this
omit hu hi' in
theorem row_rde {lo k L0 : Nat} {d : Kd α} {ys : List α} (hS : SH r L w) (q : Nat) (hq : L[q]? = some (row d e g c os)) (h : rdo os (lo + L0) k = some ys) (hk : k = m - L0 ∧ m ≤ c) : Rd d w (if c = L0 then some ⟨g, lo * d.sz, none⟩ else (some (⟨g, lo * d.sz, none⟩ : Addr)).map (·.add (L0 * d.sz))) ys := by
  obtain ⟨h1, h2, _⟩ := rdo_some h
  intro hpos
  rw [slv (by omega)]
  exact row_rd hS q hq h2 hpos
theorem r_slice_lhm (ho : o.op = .slice t' x (some lo_) (some hi_) (some mx_)) (hx : a.eval x = .slice A m c) (hl : a.eval lo_ = .int kl l) (hh : a.eval hi_ = .int kh u) (hm : a.eval mx_ = .int km mx) (h : 0 ≤ l ∧ l ≤ u ∧ u ≤ mx ∧ mx ≤ (c : Int)) :
    RunV P o a w (.slice (if mx.toNat = l.toNat then A else A.map (·.add (l.toNat * sz))) (u.toNat - l.toNat) (mx.toNat - l.toNat)) := by
  obtain ⟨q, hq1, hq2⟩ := Option.map_eq_some_iff.1 hi'
  have ht : P.underlying t' = some (.slice (P.elem t')) := by rw [elem_of hu]; exact hu
  have h2 := run_slice_lhm (P := P) w t' A m c ht kl kh km l u mx h.1 h.2.1 h.2.2.1 h.2.2.2
  rw [elem_of hu] at h2
  have hs : (sizeOf e).run P w = .ok sz w := by simp [sizeOf, typeInfo, hq1, hq2]
  rw [hs] at h2
  unfold RunV execOp; rw [ho]
  simp only [hx, hl, hh, hm, Option.map_some, Sem.run_bind, run_sliceAt_slice w t' _ _ _ _ ht, h2]; rfl
end
end
end Go.Proofs.Ytgjhiojkkjaloaa.E
