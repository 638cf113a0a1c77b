/- Texts of the claim, joined: what it uses of Sj, Sk, Sl, Sm, Sn, So, Sp, Sq, Sr. -/
import Derived.Test.YteodeedejjcmgaaDoorZi
namespace Go.Proofs.YteodeedejjcmgaaDoor.P
open Go Go.RowKit Go.Proofs.YteodeedejjcmgaaDoor.E Go.Proofs.YteodeedejjcmgaaDoor.M
set_option linter.unusedVariables false
set_option linter.unusedSectionVars false
def Gd (e : S44) : Prop := (0 ≤ e.f0 ∧ e.f0 < 18446744073709551616) ∧ e.f4 < 18446744073709551616
theorem gd_of {l : List S44} (h : gL 48 g44 l) : ∀ e ∈ l, Gd e := fun e he => by
 obtain ⟨q0, q1, q2, q3, q4⟩ := h.2 e he
 unfold gI Lit.wf at q0
 simp only [Bool.and_eq_true, decide_eq_true_eq] at q0
 refine ⟨⟨q0.1, Int.lt_of_le_of_lt q0.2 (by decide)⟩, ?_⟩
 unfold gF Lit.wf at q4
 simpa using q4
structure Run (k a : Int) (l : List S44) : Prop where
 fm : ∀ e ∈ l, formB e k = true
 gd : ∀ e ∈ l, Gd e
 of : ∀ (i : Nat) (x : S44), l[i]? = some x → x.f0 = a + i
theorem form_of {e : S44} {k : Int} (h : formB e k = true) : 0 ≤ e.f1 ∧ e.f1 < k ∧ -1099511627776 ≤ e.f2 ∧ e.f2 ≤ 1099511627776 ∧ e.f3.length ≤ 32 ∧ e.f0 < 1099511627776 := by
 unfold formB at h
 simp only [Bool.and_eq_true, decide_eq_true_eq] at h
 omega
section
variable {k a : Int} {l : List S44}
theorem Run.laid (h : Run k a l) (hk : k ≤ 8) : Laid l := fun e he => by
 have h1 := form_of (h.fm e he)
 obtain ⟨h2, h3⟩ := h.gd e he
 unfold i64
 exact ⟨h2, by omega, by omega, by omega, h3⟩
theorem Run.drop (h : Run k a l) (n : Nat) : Run k (a + n) (l.drop n) :=
 ⟨fun e he => h.fm e (List.mem_of_mem_drop he), fun e he => h.gd e (List.mem_of_mem_drop he), fun i x hx => by
  rw [List.getElem?_drop] at hx
  have := h.of _ x hx
  omega⟩
theorem Run.take (h : Run k a l) (n : Nat) : Run k a (l.take n) :=
 ⟨fun e he => h.fm e (List.mem_of_mem_take he), fun e he => h.gd e (List.mem_of_mem_take he), fun i x hx => by
  rw [List.getElem?_take] at hx
  split at hx
  ·exact h.of _ x hx
  ·cases hx⟩
end
def flt (k a : Int) : List S44 → Nat → Option Int
 | [], _ => none
 | e :: r, i => if formB e k = true then (if e.f0 = a + i then flt k a r (i + 1) else some 8) else some 3
theorem flt_run {k a : Int} : ∀ {l : List S44} {i : Nat}, flt k a l i = none → (∀ e ∈ l, Gd e) → Run k (a + i) l
 | [], i, _, _ => ⟨fun e he => (by cases he), fun e he => (by cases he), fun i x hx => (by simp at hx)⟩
 | e :: r, i, h, hg => by
  unfold flt at h
  split at h
  ·rename_i hf
   split at h
   ·rename_i h0
    have ih := flt_run h fun x hx => hg x (List.mem_cons_of_mem _ hx)
    refine ⟨fun x hx => ?_, hg, fun j x hx => ?_⟩
    ·rcases List.mem_cons.1 hx with rfl | hx
     ·exact hf
     ·exact ih.fm x hx
    ·cases j with
     | zero => simp at hx; subst hx; simpa using h0
     | succ j =>
      have := ih.of j x (by simpa using hx)
      omega
   ·cases h
  ·cases h
theorem flt_none {k a : Int} : ∀ {l : List S44} {i : Nat}, Run k (a + i) l → flt k a l i = none
 | [], i, _ => rfl
 | e :: r, i, h => by
  unfold flt
  have h0 := h.of 0 e rfl
  rw [if_pos (h.fm e List.mem_cons_self), if_pos (by simpa using h0)]
  refine flt_none ⟨fun x hx => h.fm x (List.mem_cons_of_mem _ hx), fun x hx => h.gd x (List.mem_cons_of_mem _ hx), fun j x hx => ?_⟩
  have := h.of (j + 1) x (by simpa using hx)
  omega
section
variable {k : Int} {l : List S44} {e0 : S44} (hg : ∀ e ∈ l, Gd e) (h0 : l[0]? = some e0) (hlen : l.length ≤ 1024)
include hg h0 hlen
theorem wr_loop : ∀ (m i : Nat), i + m = l.length → (i = 0 ∨ e0.f0 < 1099511627776) →
  loop (fun s : Int => segment_Write_l2 l k s) (i : Int) = some (match flt k e0.f0 (l.drop i) i with | none => .inl () | some c => .inr ([], c))
 | 0, i, hi, _ => by
  rw [List.drop_of_length_le (by omega)]
  refine loop_end ?_
  show segment_Write_l2 l k (i : Int) = _
  unfold segment_Write_l2
  rw [if_neg (by simp only [decide_eq_true_eq]; omega)]
  rfl
 | m + 1, i, hi, hs => by
  have hil : i < l.length := by omega
  have hx := List.getElem?_eq_getElem (l := l) (i := i) hil
  obtain ⟨⟨g4, g5⟩, g6⟩ := hg _ (List.getElem_mem hil)
  obtain ⟨⟨g1, g2⟩, g3⟩ := hg e0 (List.mem_of_getElem? h0)
  rw [List.drop_eq_getElem_cons hil]
  have hl : segment_Write_l2 l k (i : Int) = if formB l[i] k = true then (if l[i].f0 = e0.f0 + i then some (.inl ((i + 1 : Nat) : Int)) else some (.inr (.inr ([], 8)))) else some (.inr (.inr ([], 3))) := by
   unfold segment_Write_l2
   rw [if_pos (by simp only [decide_eq_true_eq]; omega), at_int rfl hx]
   simp only [Option.bind_some, lt_]
   rw [Form_is]
   simp only [Option.bind_some]
   cases hf : formB l[i] k with
   | false => rfl
   | true =>
    have hfm := form_of hf
    rw [if_neg (by simp), show at_ l 0 = some e0 from h0]
    simp only [Option.bind_some]
    have hw : IntKind.u64.wrap (e0.f0 + IntKind.u64.wrap (i : Int)) = e0.f0 + i ∨ i = 0 := by
     rcases hs with h | h
     ·exact .inr h
     ·left; rw [u64w (n := (i : Int)) (by omega) (by omega), u64w (by omega) (by omega)]
    have hw : IntKind.u64.wrap (e0.f0 + IntKind.u64.wrap (i : Int)) = e0.f0 + i := by
     rcases hw with h | h
     ·exact h
     ·subst h
      rw [u64w (n := ((0 : Nat) : Int)) (by omega) (by omega), u64w (by omega) (by omega)]
    rw [hw]
    by_cases he : l[i].f0 = e0.f0 + i
    ·rw [if_neg (by simpa using he), if_pos trivial, if_pos he, w64 (by omega) (by omega)]; rfl
    ·rw [if_pos (by simpa using he), if_pos trivial, if_neg he]
  unfold flt
  by_cases hf : formB l[i] k = true
  ·rw [if_pos hf] at hl ⊢
   by_cases he : l[i].f0 = e0.f0 + i
   ·rw [if_pos he] at hl ⊢
    refine (loop_nxt hl).trans (wr_loop m (i + 1) (by omega) ?_)
    have := form_of hf
    right; omega
   ·rw [if_neg he] at hl ⊢
    exact loop_end hl
  ·rw [if_neg hf] at hl ⊢
   exact loop_end hl
end
theorem pcs_at {α : Type} {q : Nat} (hq : 1 ≤ q) (xs : List α) (k : Nat) : (pcs q xs)[k]? = if k * q < xs.length then some ((xs.drop (k * q)).take q) else none := by
 split
 ·rename_i h; exact pcs_get hq h
 ·rename_i h
  rw [List.getElem?_eq_none]
  rw [pcs_len]
  have := (pcs_count (m := xs.length) (k := k) hq)
  omega
structure Cut (k : Int) (c : List S44) : Prop where
 ps : 0 < c.length
 le : c.length ≤ 64
 run : ∃ a : Int, 0 ≤ a ∧ a + c.length ≤ 1099511627776 ∧ Run k a c
theorem Run.cut {k a : Int} {l : List S44} (h : Run k a l) (ha : 0 ≤ a ∧ (0 < l.length → a + l.length ≤ 1099511627776)) : ∀ c ∈ pcs 64 l, Cut k c := by
 intro c hc
 obtain ⟨j, hj⟩ := List.getElem?_of_mem hc
 rw [pcs_at (by decide)] at hj
 split at hj
 ·rename_i hlt
  cases hj
  have hr := (h.drop (j * 64)).take 64
  have := ha.2 (by omega)
  exact ⟨by simp; omega, by simp; omega, a + (j * 64 : Nat), by omega, by simp only [List.length_take, List.length_drop]; omega, hr⟩
 ·cases hj
theorem fold_bd : ∀ (l : List S44) (c : S41), ((l.foldl ckF c).f2 ≤ c.f2 ∧ ∀ e ∈ l, (l.foldl ckF c).f2 ≤ e.f0) ∧ (c.f3 ≤ (l.foldl ckF c).f3 ∧ ∀ e ∈ l, e.f0 ≤ (l.foldl ckF c).f3) ∧ ((l.foldl ckF c).f4 ≤ c.f4 ∧ ∀ e ∈ l, (l.foldl ckF c).f4 ≤ e.f2) ∧ (c.f5 ≤ (l.foldl ckF c).f5 ∧ ∀ e ∈ l, e.f2 ≤ (l.foldl ckF c).f5)
 | [], c => by simp
 | x :: l, c => by
  obtain ⟨⟨a1, a2⟩, ⟨b1, b2⟩, ⟨c1, c2⟩, d1, d2⟩ := fold_bd l (ckF c x)
  simp only [List.foldl_cons]
  generalize l.foldl ckF (ckF c x) = z at *
  have e2 : (ckF c x).f2 ≤ c.f2 ∧ (ckF c x).f2 ≤ x.f0 := by show (if x.f0 < c.f2 then x.f0 else c.f2) ≤ _ ∧ (if x.f0 < c.f2 then x.f0 else c.f2) ≤ _; split <;> omega
  have e3 : c.f3 ≤ (ckF c x).f3 ∧ x.f0 ≤ (ckF c x).f3 := by show _ ≤ (if c.f3 < x.f0 then x.f0 else c.f3) ∧ _ ≤ (if c.f3 < x.f0 then x.f0 else c.f3); split <;> omega
  have e4 : (ckF c x).f4 ≤ c.f4 ∧ (ckF c x).f4 ≤ x.f2 := by show (if x.f2 < c.f4 then x.f2 else c.f4) ≤ _ ∧ (if x.f2 < c.f4 then x.f2 else c.f4) ≤ _; split <;> omega
  have e5 : c.f5 ≤ (ckF c x).f5 ∧ x.f2 ≤ (ckF c x).f5 := by show _ ≤ (if c.f5 < x.f2 then x.f2 else c.f5) ∧ _ ≤ (if c.f5 < x.f2 then x.f2 else c.f5); split <;> omega
  refine ⟨⟨by omega, fun e he => ?_⟩, ⟨by omega, fun e he => ?_⟩, ⟨by omega, fun e he => ?_⟩, by omega, fun e he => ?_⟩ <;> rcases List.mem_cons.1 he with rfl | he
  ·omega
  ·exact a2 e he
  ·omega
  ·exact b2 e he
  ·omega
  ·exact c2 e he
  ·omega
  ·exact d2 e he
theorem fold_in (p2 p4 : Int → Prop) (p6 : List UInt8 → Prop) : ∀ (l : List S44) (c : S41), (p2 c.f2 ∧ p2 c.f3) ∧ (p4 c.f4 ∧ p4 c.f5) ∧ (p6 c.f6 ∧ p6 c.f7) → (∀ e ∈ l, p2 e.f0 ∧ p4 e.f2 ∧ p6 e.f3) →
  (p2 (l.foldl ckF c).f2 ∧ p2 (l.foldl ckF c).f3) ∧ (p4 (l.foldl ckF c).f4 ∧ p4 (l.foldl ckF c).f5) ∧ (p6 (l.foldl ckF c).f6 ∧ p6 (l.foldl ckF c).f7)
 | [], c, h, _ => h
 | x :: l, c, h, hl => by
  obtain ⟨x1, x2, x3⟩ := hl x List.mem_cons_self
  refine fold_in p2 p4 p6 l (ckF c x) ?_ fun e he => hl e (List.mem_cons_of_mem _ he)
  obtain ⟨⟨h2, h3⟩, ⟨h4, h5⟩, h6, h7⟩ := h
  refine ⟨⟨?_, ?_⟩, ⟨?_, ?_⟩, ?_, ?_⟩
  ·show p2 (if x.f0 < c.f2 then x.f0 else c.f2); split <;> assumption
  ·show p2 (if c.f3 < x.f0 then x.f0 else c.f3); split <;> assumption
  ·show p4 (if x.f2 < c.f4 then x.f2 else c.f4); split <;> assumption
  ·show p4 (if c.f5 < x.f2 then x.f2 else c.f5); split <;> assumption
  ·show p6 (if (Op.bytesLess c.f6 x.f3 || c.f6 == x.f3) = true then c.f6 else x.f3); split <;> assumption
  ·show p6 (if Op.bytesLess c.f7 x.f3 = true then x.f3 else c.f7); split <;> assumption
structure CkOk (c : S41) : Prop where
 r0 : 0 < c.f0 ∧ c.f0 ≤ 64
 r1 : 0 ≤ c.f1
 r2 : 0 ≤ c.f2 ∧ c.f2 ≤ c.f3 ∧ c.f3 < 1099511627776 ∧ c.f3 - c.f2 = c.f0 - 1
 r4 : (-1099511627776 ≤ c.f4 ∧ c.f4 ≤ 1099511627776) ∧ (-1099511627776 ≤ c.f5 ∧ c.f5 ≤ 1099511627776)
 r6 : c.f6.length ≤ 32 ∧ c.f7.length ≤ 32
theorem run_last {k a : Int} {c : List S44} (h : Run k a c) (hc : 0 < c.length) : ∃ x y, c[0]? = some x ∧ c[c.length - 1]? = some y ∧ x.f0 = a ∧ y.f0 = a + c.length - 1 ∧ x ∈ c ∧ y ∈ c := by
 have hx := List.getElem?_eq_getElem (l := c) (i := 0) hc
 have hy := List.getElem?_eq_getElem (l := c) (i := c.length - 1) (by omega)
 have h1 := h.of 0 _ hx
 have h2 := h.of _ _ hy
 exact ⟨_, _, hx, hy, by omega, by omega, List.getElem_mem _, List.getElem_mem _⟩
theorem ck_from {k a : Int} {c : List S44} (h : Run k a c) (hc : 0 < c.length) (p : Int) : (ckL c p).f2 = a ∧ (ckL c p).f3 = a + c.length - 1 := by
 obtain ⟨x, y, hx, hy, ex, ey, mx, my⟩ := run_last h hc
 have e : ckL c p = c.foldl ckF (ck0 c p x) := by
  cases c with
  | nil => simp at hc
  | cons z c => simp at hx; subst hx; rfl
 rw [e]
 obtain ⟨⟨a1, a2⟩, ⟨b1, b2⟩, _⟩ := fold_bd c (ck0 c p x)
 have hi := fold_in (fun v => a ≤ v ∧ v ≤ a + c.length - 1) (fun _ => True) (fun _ => True) c (ck0 c p x) ⟨⟨by show a ≤ x.f0 ∧ x.f0 ≤ a + c.length - 1; omega, by show a ≤ x.f0 ∧ x.f0 ≤ a + c.length - 1; omega⟩, ⟨trivial, trivial⟩, trivial, trivial⟩ fun e he => ⟨by
  obtain ⟨i, hi⟩ := List.getElem?_of_mem he
  have := h.of i e hi
  have := (List.getElem?_eq_some_iff.1 hi).1
  omega, trivial, trivial⟩
 have q1 := a2 x mx
 have q2 := b2 y my
 omega
theorem Cut.ok {k : Int} {c : List S44} (h : Cut k c) {p : Int} (hp : 0 ≤ p) : CkOk (ckL c p) := by
 obtain ⟨a, h0, h1, hr⟩ := h.run
 have hps := h.ps
 have hle := h.le
 obtain ⟨e2, e3⟩ := ck_from hr h.ps p
 obtain ⟨e0, e1⟩ := ckL_f0 c p
 obtain ⟨x, y, hx, hy, ex, ey, mx, my⟩ := run_last hr h.ps
 have e : ckL c p = c.foldl ckF (ck0 c p x) := by
  cases c with
  | nil => simp at hps
  | cons z c => simp at hx; subst hx; rfl
 have hf : ∀ e ∈ c, (-1099511627776 ≤ e.f2 ∧ e.f2 ≤ 1099511627776) ∧ e.f3.length ≤ 32 := fun e he => by have := form_of (hr.fm e he); omega
 have hi := fold_in (fun _ => True) (fun v => -1099511627776 ≤ v ∧ v ≤ 1099511627776) (fun s => s.length ≤ 32) c (ck0 c p x) ⟨⟨trivial, trivial⟩, ⟨(hf x mx).1, (hf x mx).1⟩, (hf x mx).2, (hf x mx).2⟩ fun e he => ⟨trivial, (hf e he).1, (hf e he).2⟩
 rw [← e] at hi
 exact ⟨by omega, by omega, by omega, hi.2.1, hi.2.2⟩
theorem CkOk.len {c : S41} (h : CkOk c) (h1 : c.f1 < 18446744073709551616) : (ckB c).length ≤ 144 := by
 obtain ⟨a0, a1, a2, a4, a6⟩ := h
 have q0 := uv_length64 (n := c.f0.toNat) (by omega)
 have q1 := uv_length64 (n := c.f1.toNat) (by omega)
 have q2 := uv_length64 (n := c.f2.toNat) (by omega)
 have q3 := uv_length64 (n := c.f3.toNat) (by omega)
 have q4 := uv_length64 (n := zz c.f4) (zz_lt (by unfold i64; omega))
 have q5 := uv_length64 (n := zz c.f5) (zz_lt (by unfold i64; omega))
 have q6 := uv_length64 (n := c.f6.length) (by omega)
 have q7 := uv_length64 (n := c.f7.length) (by omega)
 have e6 : (stb c.f6).length = c.f6.length := by simp [stb]
 have e7 : (stb c.f7).length = c.f7.length := by simp [stb]
 unfold ckB
 simp only [List.length_append]
 omega
theorem Cut.pg {k : Int} {c : List S44} (h : Cut k c) (hk : k ≤ 8) : Laid c ∧ (pgL c).length ≤ 6100 ∧ 9 ≤ (pgL c).length ∧ Bs (pgL c) := by
 obtain ⟨a, h0, h1, hr⟩ := h.run
 have hle := h.le
 have hL := hr.laid hk
 have hb := bodyL_len (by omega) hL
 have e := pageL_len 101 (bodyL c)
 exact ⟨hL, by unfold pgL; omega, by unfold pgL; omega, pageL_bs (by decide) (bodyL_bs (by omega) hL)⟩
theorem pagesL_app (cs ds : List (List S44)) : pagesL (cs ++ ds) = pagesL cs ++ pagesL ds := by simp [pagesL]
theorem cksL_len : ∀ (cs : List (List S44)) (a : Nat), (cksL cs a).length = cs.length
 | [], _ => rfl
 | c :: cs, a => by simp [cksL, cksL_len cs]
theorem pages_len {k : Int} (hk : k ≤ 8) : ∀ {cs : List (List S44)}, (∀ c ∈ cs, Cut k c) → (pagesL cs).length ≤ 6100 * cs.length ∧ 9 * cs.length ≤ (pagesL cs).length ∧ Bs (pagesL cs)
 | [], _ => ⟨by simp [pagesL], by simp [pagesL], Bs.nil⟩
 | c :: cs, h => by
  obtain ⟨a, b, d⟩ := pages_len hk fun x hx => h x (List.mem_cons_of_mem _ hx)
  obtain ⟨_, q1, q2, q3⟩ := (h c List.mem_cons_self).pg hk
  rw [show pagesL (c :: cs) = pgL c ++ pagesL cs from rfl]
  exact ⟨by simp; omega, by simp; omega, q3.app d⟩
theorem cks_ok {k : Int} (hk : k ≤ 8) : ∀ {cs : List (List S44)} {a : Nat}, (∀ c ∈ cs, Cut k c) → ∀ x ∈ cksL cs a, CkOk x ∧ x.f1 ≤ ((a + (pagesL cs).length : Nat) : Int) ∧ (0 < cs.length → x.f1 < ((a + (pagesL cs).length : Nat) : Int))
 | [], a, _, x, hx => by cases hx
 | c :: cs, a, h, x, hx => by
  have hc := h c List.mem_cons_self
  obtain ⟨_, q1, q2, q3⟩ := hc.pg hk
  rw [show pagesL (c :: cs) = pgL c ++ pagesL cs from rfl, List.length_append]
  rcases List.mem_cons.1 hx with rfl | hx
  ·have e := (ckL_f0 c (a : Int)).2
   exact ⟨hc.ok (by omega), by rw [e]; omega, fun _ => by rw [e]; omega⟩
  ·obtain ⟨i1, i2, i3⟩ := cks_ok hk (fun x hx => h x (List.mem_cons_of_mem _ hx)) x hx
   refine ⟨i1, by omega, fun _ => ?_⟩
   have : 0 < cs.length := by
    rw [← cksL_len cs (a + (pgL c).length)]
    exact List.length_pos_of_mem hx
   have := i3 this
   omega
theorem uints_eq {ns : List Nat} (h : ∀ n ∈ ns, n < 18446744073709551616) (p : List Int) (hl : p.length + 10 * ns.length ≤ 140737488355000) : segment_uints p (ns.map fun n : Nat => (n : Int)) = some (p ++ ns.flatMap uv) := by
 have hb : ∀ m, m ≤ ns.length → ((ns.take m).flatMap uv).length ≤ 10 * m := by
  intro m
  induction m with
  | zero => intro _; simp
  | succ m ih =>
   intro hm
   have hx := List.getElem?_eq_getElem (l := ns) (i := m) (by omega)
   have := uv_length64 (h _ (List.getElem_mem (l := ns) (n := m) (by omega)))
   rw [List.take_add_one, hx, List.flatMap_append, List.length_append]
   have := ih (by omega)
   simp only [Option.toList_some, List.flatMap_cons, List.flatMap_nil, List.append_nil]
   omega
 unfold segment_uints
 have hk := loop_to (b := fun s : List Int × Int => segment_uints_l1 (ns.map fun n : Nat => (n : Int)) s.1 s.2) (fun k => (p ++ (ns.take k).flatMap uv, (k : Int))) (t := p ++ ns.flatMap uv) ns.length (fun k hk => by
  have hx := List.getElem?_eq_getElem (l := ns) (i := k) hk
  have hx' : (ns.map fun n : Nat => (n : Int))[k]? = some ((ns[k] : Nat) : Int) := by rw [List.getElem?_map, hx]; rfl
  show segment_uints_l1 _ _ (k : Int) = _
  unfold segment_uints_l1
  have h1 := hb k (by omega)
  have h2 := uv_length64 (h _ (List.getElem_mem hk))
  rw [if_pos (by simp only [decide_eq_true_eq, List.length_map]; omega), at_int rfl hx']
  simp only [Option.bind_some]
  rw [Uint_app _ _ (h _ (List.getElem_mem hk)) (by simp only [List.length_append]; omega)]
  simp only [Option.bind_some, lt_]
  rw [w64 (by omega) (by omega), List.take_add_one, hx, List.flatMap_append]
  simp only [Option.toList_some, List.flatMap_cons, List.flatMap_nil, List.append_nil, List.append_assoc]
  rfl) (by
  show segment_uints_l1 _ _ ((ns.length : Nat) : Int) = _
  unfold segment_uints_l1
  rw [if_neg (by simp), List.take_length])
 rw [show (p, (0 : Int)) = (p ++ (ns.take 0).flatMap uv, ((0 : Nat) : Int)) by simp, hk]
 rfl
def WL (k : Int) (l : List S44) : List Int × Int :=
 if l.length = 0 ∨ k < 1 ∨ 8 < k then ([], 1) else if 1024 < l.length then ([], 2) else
 match flt k (l.head?.map (·.f0) |>.getD 0) l 0 with
 | some c => ([], c)
 | none => (segL l k.toNat, 0)
section
variable {k : Int} (hk : k ≤ 8)
include hk
theorem wr_pieces : ∀ (cs : List (List S44)) (p : List Int) (ch : List S41), (∀ c ∈ cs, Cut k c) → p.length + 6100 * cs.length ≤ 1000000 → ch.length + cs.length ≤ 100000 →
  cs.foldlM (fun (s : List Int × List S41) l => segment_Write_r1 s.1 s.2 l) (p, ch) = some (p ++ pagesL cs, ch ++ cksL cs p.length)
 | [], p, ch, _, _, _ => by simp [pagesL, cksL]
 | c :: cs, p, ch, h, hp, hch => by
  have hc := h c List.mem_cons_self
  obtain ⟨hL, q1, q2, q3⟩ := hc.pg hk
  have hle := hc.le
  simp only [List.length_cons] at hp hch
  rw [List.foldlM_cons]
  have e : segment_Write_r1 p ch c = some (p ++ pgL c, ch ++ [ckL c (p.length : Int)]) := by
   unfold segment_Write_r1
   rw [chunk_eq hc.ps (by omega)]
   simp only [Option.bind_some]
   rw [chk_pos (by simp; omega), event_Lay_eq (by omega) hL (by omega)]
   rfl
  simp only [e, Option.bind_eq_bind, Option.bind_some]
  rw [wr_pieces cs _ _ (fun x hx => h x (List.mem_cons_of_mem _ hx)) (by simp only [List.length_append]; omega) (by simp; omega)]
  simp [pagesL, cksL]
end
theorem wr_foot {k : Int} (l : List S41) (h : ∀ c ∈ l, CkOk c ∧ c.f1 < 1099511627776) (hl : l.length ≤ 1000) (p : List Int) (hp : p.length ≤ 100) :
  loop (fun s : List Int × Int => segment_Write_l1 l s.1 s.2) (p, 0) = some (p ++ l.flatMap ckB) := by
 have hb : ∀ m, m ≤ l.length → ((l.take m).flatMap ckB).length ≤ 144 * m := by
  intro m
  induction m with
  | zero => intro _; simp
  | succ m ih =>
   intro hm
   have hx := List.getElem?_eq_getElem (l := l) (i := m) (by omega)
   obtain ⟨h1, h2⟩ := h _ (List.getElem_mem (l := l) (n := m) (by omega))
   have := h1.len (by omega)
   rw [List.take_add_one, hx, List.flatMap_append, List.length_append]
   have := ih (by omega)
   simp only [Option.toList_some, List.flatMap_cons, List.flatMap_nil, List.append_nil]
   omega
 have hk := loop_to (b := fun s : List Int × Int => segment_Write_l1 l s.1 s.2) (fun k => (p ++ (l.take k).flatMap ckB, (k : Int))) (t := p ++ l.flatMap ckB) l.length (fun k hk => by
  have hx := List.getElem?_eq_getElem (l := l) (i := k) hk
  obtain ⟨h1, h2⟩ := h _ (List.getElem_mem hk)
  have hq := hb k (by omega)
  show segment_Write_l1 l _ (k : Int) = _
  unfold segment_Write_l1
  rw [if_pos (by simp only [decide_eq_true_eq]; omega), at_int rfl hx]
  simp only [Option.bind_some, lt_]
  generalize l[k] = c at h1 h2 hx
  obtain ⟨a0, a1, a2, a4, a6⟩ := h1
  rw [u64w (n := c.f0) (by omega) (by omega), u64w (n := c.f1) (by omega) (by omega)]
  have hu := uints_eq (ns := [c.f0.toNat, c.f1.toNat, c.f2.toNat, c.f3.toNat]) (by simp; omega) (p ++ (l.take k).flatMap ckB) (by simp only [List.length_append, List.length_cons, List.length_nil]; omega)
  simp only [List.map_cons, List.map_nil] at hu
  rw [show ((c.f0.toNat : Nat) : Int) = c.f0 by omega, show ((c.f1.toNat : Nat) : Int) = c.f1 by omega, show ((c.f2.toNat : Nat) : Int) = c.f2 by omega, show ((c.f3.toNat : Nat) : Int) = c.f3 by omega] at hu
  rw [hu]
  simp only [Option.bind_some]
  have q0 := uv_length64 (n := c.f0.toNat) (by omega)
  have q1 := uv_length64 (n := c.f1.toNat) (by omega)
  have q2 := uv_length64 (n := c.f2.toNat) (by omega)
  have q3 := uv_length64 (n := c.f3.toNat) (by omega)
  have i4 : i64 c.f4 := by unfold i64; omega
  have i5 : i64 c.f5 := by unfold i64; omega
  have q4 := uv_length64 (n := zz c.f4) (zz_lt i4)
  have q5 := uv_length64 (n := zz c.f5) (zz_lt i5)
  have q6 := uv_length64 (n := c.f6.length) (by omega)
  have e6 : (stb c.f6).length = c.f6.length := by simp [stb]
  rw [Int_app i4 _ (by simp only [List.length_append, List.flatMap_cons, List.flatMap_nil, List.length_nil]; omega)]
  simp only [Option.bind_some]
  rw [Int_app i5 _ (by simp only [List.length_append, List.flatMap_cons, List.flatMap_nil, List.length_nil]; omega)]
  simp only [Option.bind_some]
  rw [Text_app _ _ (by omega) (by simp only [List.length_append, List.flatMap_cons, List.flatMap_nil, List.length_nil]; omega)]
  simp only [Option.bind_some]
  rw [Text_app _ _ (by omega) (by simp only [List.length_append, List.flatMap_cons, List.flatMap_nil, List.length_nil]; omega)]
  simp only [Option.bind_some]
  rw [w64 (by omega) (by omega), List.take_add_one, hx, List.flatMap_append]
  simp only [Option.toList_some, List.flatMap_cons, List.flatMap_nil, List.append_nil, List.append_assoc, ckB]
  rfl) (by
  show segment_Write_l1 l _ ((l.length : Nat) : Int) = _
  unfold segment_Write_l1
  rw [if_neg (by simp), List.take_length])
 rw [show (p, (0 : Int)) = (p ++ (l.take 0).flatMap ckB, ((0 : Nat) : Int)) by simp, hk]
theorem foot_len {k : Nat} (hk : k ≤ 8) {l : List S41} (h : ∀ c ∈ l, CkOk c ∧ c.f1 < 1099511627776) (hl : l.length ≤ 1000) : (footL k l).length ≤ 20 + 144 * l.length ∧ Bs (footL k l) := by
 have q0 := uv_length64 (n := k) (by omega)
 have q1 := uv_length64 (n := l.length) (by omega)
 have key : ∀ l : List S41, (∀ c ∈ l, CkOk c ∧ c.f1 < 1099511627776) → (l.flatMap ckB).length ≤ 144 * l.length ∧ Bs (l.flatMap ckB) := by
  intro l
  induction l with
  | nil => intro _; exact ⟨by simp, Bs.nil⟩
  | cons c l ih =>
   intro h
   obtain ⟨i1, i2⟩ := ih fun x hx => h x (List.mem_cons_of_mem _ hx)
   obtain ⟨h1, h2⟩ := h c List.mem_cons_self
   have := h1.len (by omega)
   rw [List.flatMap_cons]
   refine ⟨by simp only [List.length_append, List.length_cons]; omega, Bs.app ?_ i2⟩
   exact (Bs.uv _).app ((Bs.uv _).app ((Bs.uv _).app ((Bs.uv _).app ((Bs.uv _).app ((Bs.uv _).app ((Bs.uv _).app ((Bs.stb _).app ((Bs.uv _).app (Bs.stb _)))))))))
 obtain ⟨k1, k2⟩ := key l h
 unfold footL
 exact ⟨by simp only [List.length_append]; omega, (Bs.uv _).app ((Bs.uv _).app k2)⟩
theorem four_at {n : Nat} (h : n < 1099511627776) : [IntKind.u8.wrap (n : Int), IntKind.u8.wrap (ishr .i64 (n : Int) 8), IntKind.u8.wrap (ishr .i64 (n : Int) 16), IntKind.u8.wrap (ishr .i64 (n : Int) 24)] = fourL n := by
 have e1 : ishr .i64 (n : Int) 8 = ((n / 256 : Nat) : Int) := ishr_nat (k := .i64) n 8 (by decide)
 have e2 : ishr .i64 (n : Int) 16 = ((n / 65536 : Nat) : Int) := ishr_nat (k := .i64) n 16 (by decide)
 have e3 : ishr .i64 (n : Int) 24 = ((n / 16777216 : Nat) : Int) := ishr_nat (k := .i64) n 24 (by decide)
 rw [e1, e2, e3, u8_nat, u8_nat, u8_nat, u8_nat]
 rfl
structure Seg (k : Int) (l : List S44) : Prop where
 k1 : 1 ≤ k
 k8 : k ≤ 8
 ps : 0 < l.length
 le : l.length ≤ 1024
 run : ∃ a : Int, 0 ≤ a ∧ a + l.length ≤ 1099511627776 ∧ Run k a l
section
variable {k : Int} {l : List S44} (h : Seg k l)
include h
theorem Seg.cut : ∀ c ∈ pcs 64 l, Cut k c := by
 obtain ⟨a, h0, h1, hr⟩ := h.run
 exact hr.cut ⟨h0, fun _ => h1⟩
theorem Seg.num : (pcs 64 l).length ≤ 16 ∧ 0 < (pcs 64 l).length := by
 have h1 := h.le
 have h2 := h.ps
 rw [pcs_len]
 omega
theorem Seg.cks : (∀ x ∈ cksL (pcs 64 l) 0, CkOk x ∧ x.f1 < 1099511627776) ∧ (cksL (pcs 64 l) 0).length ≤ 16 ∧ (pagesL (pcs 64 l)).length ≤ 97600 ∧ 9 ≤ (pagesL (pcs 64 l)).length ∧ Bs (pagesL (pcs 64 l)) := by
 obtain ⟨n1, n2⟩ := h.num
 obtain ⟨p1, p2, p3⟩ := pages_len h.k8 h.cut
 refine ⟨fun x hx => ?_, by rw [cksL_len]; exact n1, by omega, by omega, p3⟩
 obtain ⟨c1, c2, _⟩ := cks_ok h.k8 h.cut x hx
 exact ⟨c1, by omega⟩
theorem Seg.foot : (footL k.toNat (cksL (pcs 64 l) 0)).length ≤ 2400 ∧ Bs (footL k.toNat (cksL (pcs 64 l) 0)) := by
 obtain ⟨c1, c2, _⟩ := h.cks
 have := h.k8
 obtain ⟨f1, f2⟩ := foot_len (k := k.toNat) (by omega) c1 (by omega)
 exact ⟨by omega, f2⟩
theorem wr_eq : segment_Write_b1 l k = some (segL l k.toNat, 0) := by
 obtain ⟨n1, n2⟩ := h.num
 obtain ⟨c1, c2, c3, c4, c5⟩ := h.cks
 obtain ⟨f1, f2⟩ := h.foot
 have hk1 := h.k1
 have hk8 := h.k8
 have hle := h.le
 unfold segment_Write_b1
 rw [chk_pos (by omega), wr_pieces h.k8 _ _ _ h.cut (by simp; omega) (by simp; omega)]
 simp only [Option.bind_some, List.nil_append, List.length_nil]
 unfold segment_Write_rx1
 simp only [lt_]
 rw [u64w (n := k) (by omega) (by omega), u64w (by omega) (by omega)]
 have hu := uints_eq (ns := [k.toNat, (cksL (pcs 64 l) 0).length]) (by simp; omega) [] (by simp)
 simp only [List.map_cons, List.map_nil, List.nil_append] at hu
 rw [show ((k.toNat : Nat) : Int) = k by omega] at hu
 rw [hu]
 simp only [Option.bind_some]
 have q0 := uv_length64 (n := k.toNat) (by omega)
 have q1 := uv_length64 (n := (cksL (pcs 64 l) 0).length) (by omega)
 rw [wr_foot (k := k) _ c1 (by omega) _ (by simp; omega)]
 simp only [Option.bind_some]
 unfold segment_Write_x1_5 segment_Write_b2
 have ef : ([k.toNat, (cksL (pcs 64 l) 0).length].flatMap uv ++ (cksL (pcs 64 l) 0).flatMap ckB) = footL k.toNat (cksL (pcs 64 l) 0) := by simp [footL]
 rw [ef, page_Lay_eq (by decide) f2 (by omega) (by omega)]
 simp only [Option.bind_some, lt_]
 rw [four_at (by omega)]
 have hpl := pageL_len 102 (footL k.toNat (cksL (pcs 64 l) 0))
 rw [page_Lay_eq (by decide) (fourL_bs _) (by simp [fourL_len]) (by simp only [List.length_append]; omega)]
 rfl
end
theorem Write_eq {l : List S44} (hg : ∀ e ∈ l, Gd e) (k : Int) (hl : l.length < 4611686018427387904) : segment_Write l k = some (WL k l) := by
 unfold segment_Write WL
 have hj : segment_Write_j1 l k true = some ([], 1) := rfl
 by_cases h0 : l.length = 0
 ·rw [if_pos (by simp [h0]), hj, if_pos (.inl h0)]
 rw [if_neg (by simp; intro e; simp [e] at h0)]
 by_cases h1 : k < 1
 ·rw [if_pos (by simpa using h1), hj, if_pos (.inr (.inl h1))]
 rw [if_neg (by simpa using h1)]
 by_cases h8 : 8 < k
 ·rw [show decide (8 < k) = true by simpa using h8, hj, if_pos (.inr (.inr h8))]
 rw [show decide (8 < k) = false by simpa using h8, if_neg (by rintro (h | h | h); exact h0 h; exact h1 h; exact h8 h)]
 unfold segment_Write_j1
 rw [if_neg (by simp)]
 by_cases hn : 1024 < l.length
 ·rw [if_pos (by simp only [decide_eq_true_eq]; omega), if_pos hn]
 rw [if_neg (by simp only [decide_eq_true_eq]; omega), if_neg hn]
 obtain ⟨e0, he0⟩ : ∃ e, l[0]? = some e := ⟨_, List.getElem?_eq_getElem (by omega)⟩
 have hh : (l.head?.map (·.f0) |>.getD 0) = e0.f0 := by rw [List.head?_eq_getElem?, he0]; rfl
 have := wr_loop (k := k) hg he0 (by omega) l.length 0 (by omega) (.inl rfl)
 rw [hh, show (0 : Int) = ((0 : Nat) : Int) from rfl, this, List.drop_zero]
 simp only [Option.bind_some]
 cases hf : flt k e0.f0 l 0 with
 | some c => rfl
 | none =>
  have hr := flt_run hf hg
  have hlast := run_last hr (by omega)
  obtain ⟨x, y, hx, hy, ex, ey, mx, my⟩ := hlast
  have f1 := form_of (hr.fm y my)
  have g1 := hr.gd x mx
  exact wr_eq (l := l) (k := k) ⟨by omega, by omega, by omega, by omega, _, by have := g1.1; omega, by omega, hr⟩
theorem rdU {m : Nat} {most : Int} {r : List Int} (h : m < 18446744073709551616) (hm : (m : Int) ≤ most) (hB : Bs (uv m ++ r)) : column_Reader_Uint ⟨uv m ++ r⟩ most = some (.inl ((m : Int), ⟨r⟩)) := by
 have := Uint_is most hB
 rw [pU_uv h r hm] at this
 exact this
theorem rdI {x : Int} {r : List Int} (h : i64 x) (hB : Bs (uv (zz x) ++ r)) : column_Reader_Int ⟨uv (zz x) ++ r⟩ = some (.inl (x, ⟨r⟩)) := by
 have := Int_is hB
 rw [pI_uv h r] at this
 exact this
theorem rdT {s : List UInt8} {r : List Int} (h : s.length ≤ 32) (hB : Bs (uv s.length ++ (stb s ++ r))) (hl : (uv s.length ++ (stb s ++ r)).length < 9223372036854775808) : column_Reader_Text ⟨uv s.length ++ (stb s ++ r)⟩ 32 = some (.inl (s, ⟨r⟩)) := by
 have := Text_is 32 hB hl
 rw [pT_laid h r] at this
 exact this
theorem foot_step {a0 : S83} {x : Int} {y : Int × S106} {ch : List S41} {c : S41} {r : List Int} {i : Nat} (hc : CkOk c) (hat : c.f1 ≤ (a0.f0.length : Int)) (hP : a0.f0.length ≤ 1000000) (hr : r.length ≤ 1000000)
  (hB : Bs (ckB c ++ r)) (hi : (i : Int) < y.1) (hi' : i ≤ 1024) (hch : ch.length = i) (h0 : i = 0 → c.f1 = 0) (hp : 0 < i → ∃ p, ch[i - 1]? = some p ∧ c.f2 = p.f3 + 1 ∧ p.f1 < c.f1) :
  segment_Segment_foot_l1 a0 x y ch (ckB c ++ r) (i : Int) = some (.inl (ch ++ [c], r, ((i + 1 : Nat) : Int))) := by
 obtain ⟨r0, r1, r2, r4, r6⟩ := hc
 have q2 := uv_length64 (n := c.f2.toNat) (by omega)
 have i4 : i64 c.f4 := by unfold i64; omega
 have i5 : i64 c.f5 := by unfold i64; omega
 have q6 := uv_length64 (n := c.f6.length) (by omega)
 have q7 := uv_length64 (n := c.f7.length) (by omega)
 have l6 : (stb c.f6).length = c.f6.length := by simp [stb]
 have l7 : (stb c.f7).length = c.f7.length := by simp [stb]
 have e : ckB c ++ r = uv c.f0.toNat ++ (uv c.f1.toNat ++ (uv c.f2.toNat ++ (uv c.f3.toNat ++ (uv (zz c.f4) ++ (uv (zz c.f5) ++ (uv c.f6.length ++ (stb c.f6 ++ (uv c.f7.length ++ (stb c.f7 ++ r))))))))) := by simp only [ckB, List.append_assoc]
 rw [e] at hB ⊢
 have b1 := hB.r
 have b2 := b1.r
 have b3 := b2.r
 have b4 := b3.r
 have b5 := b4.r
 have b6 := b5.r
 have b7 := b6.r.r
 unfold segment_Segment_foot_l1
 rw [if_pos (by simpa using hi)]
 simp only [lt_]
 rw [u64w (n := (a0.f0.length : Int)) (by omega) (by omega), rdU (by omega) (by omega) hB]
 simp only [Option.bind_some, s_inl, lt_]
 rw [rdU (by omega) (by omega) b1]
 simp only [Option.bind_some, s_inl, lt_]
 rw [show ((c.f0.toNat : Nat) : Int) = c.f0 by omega, show ((c.f1.toNat : Nat) : Int) = c.f1 by omega, w64 (n := c.f0) (by omega) (by omega), w64 (n := c.f1) (by omega) (by omega)]
 unfold segment_Segment_foot_j2
 rw [rdU (by omega) (by omega) b2]
 simp only [Option.bind_some, s_inl]
 rw [rdU (by omega) (by omega) b3]
 simp only [Option.bind_some, s_inl]
 rw [rdI i4 b4]
 simp only [Option.bind_some, s_inl]
 rw [rdI i5 b5]
 simp only [Option.bind_some, s_inl]
 rw [rdT r6.1 b6 (by simp only [List.length_append]; omega)]
 simp only [Option.bind_some, s_inl]
 rw [rdT r6.2 b7 (by simp only [List.length_append]; omega)]
 simp only [Option.bind_some, s_inl, lt_]
 rw [show ((c.f2.toNat : Nat) : Int) = c.f2 by omega, show ((c.f3.toNat : Nat) : Int) = c.f3 by omega]
 rw [if_pos (by simp only [decide_eq_true_eq]; omega), u64w (n := c.f3 - c.f2) (by omega) (by omega), w64 (n := c.f0 - 1) (by omega) (by omega), u64w (n := c.f0 - 1) (by omega) (by omega), if_pos (by simp only [beq_iff_eq]; omega),
  show decide (c.f2 ≤ c.f3) = true by simp only [decide_eq_true_eq]; omega, Check_t]
 simp only [Option.bind_some, s_inl]
 have hj4 : segment_Segment_foot_j4 ch (i : Int) c.f0 c.f1 (c.f2, ⟨uv c.f3.toNat ++ (uv (zz c.f4) ++ (uv (zz c.f5) ++ (uv c.f6.length ++ (stb c.f6 ++ (uv c.f7.length ++ (stb c.f7 ++ r))))))⟩) (c.f3, ⟨uv (zz c.f4) ++ (uv (zz c.f5) ++ (uv c.f6.length ++ (stb c.f6 ++ (uv c.f7.length ++ (stb c.f7 ++ r)))))⟩)
   (c.f4, ⟨uv (zz c.f5) ++ (uv c.f6.length ++ (stb c.f6 ++ (uv c.f7.length ++ (stb c.f7 ++ r))))⟩) (c.f5, ⟨uv c.f6.length ++ (stb c.f6 ++ (uv c.f7.length ++ (stb c.f7 ++ r)))⟩) (c.f6, ⟨uv c.f7.length ++ (stb c.f7 ++ r)⟩) (c.f7, ⟨r⟩) r = some (.inl (ch ++ [c], r, ((i + 1 : Nat) : Int))) := by
  unfold segment_Segment_foot_j4
  simp only [lt_]
  rw [chk_pos (by simp only [List.length_cons, List.length_nil]; omega), u64w (by omega) (by omega)]
  rfl
 unfold segment_Segment_foot_j3
 by_cases hz : i = 0
 ·rw [if_neg (by simp only [decide_eq_true_eq]; omega), h0 hz, show ((0 : Int) == 0) = true from rfl, Check_t]
  simp only [Option.bind_some, s_inl]
  rw [h0 hz] at hj4
  exact hj4
 ·obtain ⟨p, hp1, hp2, hp3⟩ := hp (by omega)
  rw [if_pos (by simp only [decide_eq_true_eq]; omega)]
  simp only [lt_]
  rw [u64w (n := (i : Int) - 1) (by omega) (by omega), at_int (n := i - 1) (by omega) hp1]
  simp only [Option.bind_some, lt_]
  rw [u64w (n := p.f3 + 1) (by omega) (by omega), if_pos (by simp only [beq_iff_eq]; exact hp2), show decide (p.f1 < c.f1) = true by simpa using hp3, Check_t]
  simp only [Option.bind_some, s_inl]
  exact hj4
theorem cksL_at : ∀ (cs : List (List S44)) (a i : Nat), (cksL cs a)[i]? = (cs[i]?).map fun c => ckL c ((a + (pagesL (cs.take i)).length : Nat) : Int)
 | [], a, i => by simp [cksL]
 | c :: cs, a, 0 => by simp [cksL, pagesL]
 | c :: cs, a, i + 1 => by
  show (cksL cs (a + (pgL c).length))[i]? = _
  rw [cksL_at cs]
  simp only [List.getElem?_cons_succ, List.take_succ_cons]
  rw [show pagesL (c :: cs.take i) = pgL c ++ pagesL (cs.take i) from rfl, List.length_append, Nat.add_assoc]
section
variable {k : Int} {l : List S44} (h : Seg k l)
include h
theorem Seg.at_ {i : Nat} {x : S41} (hx : (cksL (pcs 64 l) 0)[i]? = some x) : ∃ a : Int, 0 ≤ a ∧ Run k a l ∧ x = ckL ((l.drop (i * 64)).take 64) (((pagesL ((pcs 64 l).take i)).length : Nat) : Int) ∧ i * 64 < l.length ∧ x.f1 = (((pagesL ((pcs 64 l).take i)).length : Nat) : Int) ∧ x.f2 = a + (i * 64 : Nat) ∧ x.f3 = a + (min l.length (i * 64 + 64) : Nat) - 1 ∧ x.f0 = ((min 64 (l.length - i * 64) : Nat) : Int) := by
 obtain ⟨a, ha0, ha1, hr⟩ := h.run
 rw [cksL_at, Nat.zero_add] at hx
 obtain ⟨c, hc, rfl⟩ := Option.map_eq_some_iff.1 hx
 have hlt : i * 64 < l.length := by
  have := (List.getElem?_eq_some_iff.1 hc).1
  rw [pcs_len] at this
  exact (pcs_count (by decide)).2 this
 rw [pcs_get (by decide) hlt] at hc
 cases hc
 have hrc := (hr.drop (i * 64)).take 64
 have hl : ((l.drop (i * 64)).take 64).length = min 64 (l.length - i * 64) := by simp
 obtain ⟨e2, e3⟩ := ck_from hrc (by omega) (((pagesL ((pcs 64 l).take i)).length : Nat) : Int)
 obtain ⟨e0, e1⟩ := ckL_f0 ((l.drop (i * 64)).take 64) (((pagesL ((pcs 64 l).take i)).length : Nat) : Int)
 exact ⟨a, ha0, hr, rfl, hlt, e1, e2, by rw [e3, hl]; omega, by rw [e0, hl]⟩
theorem Seg.page_lt {i j : Nat} (hij : i < j) (hj : j ≤ (pcs 64 l).length) : (pagesL ((pcs 64 l).take i)).length < (pagesL ((pcs 64 l).take j)).length := by
 have e : (pcs 64 l).take j = (pcs 64 l).take i ++ ((pcs 64 l).take j).drop i := by
  have := List.take_append_drop i ((pcs 64 l).take j)
  rw [List.take_take, Nat.min_eq_left (by omega)] at this
  exact this.symm
 rw [e, pagesL_app, List.length_append]
 have hc : ∀ c ∈ ((pcs 64 l).take j).drop i, Cut k c := fun c hc => h.cut c (List.mem_of_mem_take (List.mem_of_mem_drop hc))
 obtain ⟨p1, p2, p3⟩ := pages_len h.k8 hc
 have : ((pcs 64 l).take j).drop i ≠ [] := by
  intro e
  have := congrArg List.length e
  simp at this
  omega
 have := List.length_pos_iff.2 this
 omega
theorem foot_eq : segment_Segment_foot ⟨pagesL (pcs 64 l), 0, []⟩ ⟨footL k.toNat (cksL (pcs 64 l) 0)⟩ = some (.inl (⟨pagesL (pcs 64 l), k, cksL (pcs 64 l) 0⟩, ⟨[]⟩)) := by
 obtain ⟨n1, n2⟩ := h.num
 obtain ⟨c1, c2, c3, c4, c5⟩ := h.cks
 obtain ⟨f1, f2⟩ := h.foot
 have hk1 := h.k1
 have hk8 := h.k8
 have hn := cksL_len (pcs 64 l) 0
 unfold footL at f2 f1 ⊢
 unfold segment_Segment_foot
 rw [rdU (by omega) (by omega) f2]
 simp only [Option.bind_some, s_inl, lt_]
 rw [show ((k.toNat : Nat) : Int) = k by omega, w64 (n := k) (by omega) (by omega), rdU (by omega) (by omega) f2.r]
 simp only [Option.bind_some, s_inl]
 rw [if_pos (by simp only [decide_eq_true_eq]; omega), show decide (0 < (((cksL (pcs 64 l) 0).length : Nat) : Int)) = true by simp only [decide_eq_true_eq]; omega, Check_t]
 simp only [Option.bind_some, s_inl]
 have hB := f2.r.r
 have hfl : ((cksL (pcs 64 l) 0).flatMap ckB).length ≤ 2400 := by simp only [List.length_append] at f1; omega
 have hok : ∀ x ∈ cksL (pcs 64 l) 0, x.f1 ≤ ((pagesL (pcs 64 l)).length : Int) := fun x hx => by
  have := (cks_ok hk8 h.cut x hx).2.1
  omega
 have hat := fun {i x} => h.at_ (i := i) (x := x)
 have hlt := fun {i j} => h.page_lt (i := i) (j := j)
 generalize hY : (((((cksL (pcs 64 l) 0).length : Nat) : Int)), (⟨(cksL (pcs 64 l) 0).flatMap ckB⟩ : S106)) = Y
 have hY1 : Y.1 = (((cksL (pcs 64 l) 0).length : Nat) : Int) := by rw [← hY]
 unfold segment_Segment_foot_j1
 generalize cksL (pcs 64 l) 0 = cks at *
 have hk := loop_to (b := fun s : List S41 × List Int × Int => segment_Segment_foot_l1 ⟨pagesL (pcs 64 l), 0, []⟩ k Y s.1 s.2.1 s.2.2) (fun i => (cks.take i, (cks.drop i).flatMap ckB, (i : Int)))
  (t := .inl (cks, [])) cks.length (fun i hi => by
   have hx := List.getElem?_eq_getElem (l := cks) (i := i) hi
   obtain ⟨a, ha0, ha1, ha2, ha3, ha4, ha5, ha6, ha7⟩ := hat hx
   have hd : cks.drop i = cks[i] :: cks.drop (i + 1) := List.drop_eq_getElem_cons hi
   have hsub : (cks.flatMap ckB) = (cks.take i).flatMap ckB ++ (ckB cks[i] ++ (cks.drop (i + 1)).flatMap ckB) := by
    rw [← List.flatMap_cons, ← hd, ← List.flatMap_append, List.take_append_drop]
   have hfl' := hfl
   rw [hsub] at hB hfl'
   simp only [List.length_append] at hfl'
   have hm := List.getElem_mem hi
   show segment_Segment_foot_l1 _ k Y (cks.take i) ((cks.drop i).flatMap ckB) (i : Int) = _
   rw [hd, List.flatMap_cons]
   rw [foot_step (c1 _ hm).1 (hok _ hm) (by show (pagesL (pcs 64 l)).length ≤ _; omega) (by omega) hB.r (by rw [hY1]; omega) (by omega) (by simp; omega) (fun e => by subst e; rw [ha4]; simp [pagesL]) (fun hpos => by
    have hp := List.getElem?_eq_getElem (l := cks) (i := i - 1) (by omega)
    obtain ⟨b, hb0, hb1, hb2, hb3, hb4, hb5, hb6, hb7⟩ := hat hp
    have hab : a = b := by
     have q1 := ha1.of 0 _ (List.getElem?_eq_getElem (by omega))
     have q2 := hb1.of 0 _ (List.getElem?_eq_getElem (by omega))
     omega
    refine ⟨_, by rw [List.getElem?_take, if_pos (by omega)]; exact hp, by rw [ha5, hb6, hab]; omega, ?_⟩
    rw [ha4, hb4]
    have := hlt (i := i - 1) (j := i) (by omega) (by omega)
    omega), List.take_add_one, hx]
   rfl) (by
   show segment_Segment_foot_l1 _ k Y _ _ ((cks.length : Nat) : Int) = _
   unfold segment_Segment_foot_l1
   rw [if_neg (by simp only [decide_eq_true_eq]; omega), List.take_length, List.drop_length]
   rfl)
 rw [show (([] : List S41), cks.flatMap ckB, (0 : Int)) = (cks.take 0, (cks.drop 0).flatMap ckB, ((0 : Nat) : Int)) by simp, hk]
 rfl
end
theorem ior_i64 {a b : Nat} (ha : a < 4294967296) (hb : b < 4294967296) : ior .i64 (a : Int) (b : Int) = ((a ||| b : Nat) : Int) := by
 unfold ior
 rw [ofInt_nat, ofInt_nat]
 have h : a ||| b < 2 ^ 32 := Nat.or_lt_two_pow (show a < 2 ^ 32 by omega) (show b < 2 ^ 32 by omega)
 simp only [BitVec.toNat_or, BitVec.toNat_ofNat, show IntKind.i64.bits = 64 from rfl]
 rw [Nat.mod_eq_of_lt (show a < 2 ^ 64 by omega), Nat.mod_eq_of_lt (show b < 2 ^ 64 by omega), w64 (by omega) (by omega)]
theorem ishl_i64 {a n : Nat} (hn : n ≤ 24) (ha : a < 256) : ishl .i64 (a : Int) (n : Int) = ((a * 2 ^ n : Nat) : Int) := by
 have h1 : 2 ^ n ≤ 2 ^ 24 := Nat.pow_le_pow_right (by decide) hn
 have h2 : a * 2 ^ n ≤ 255 * 2 ^ 24 := Nat.mul_le_mul (by omega) h1
 unfold ishl
 rw [show min ((n : Int).toNat) IntKind.i64.bits = n from by rw [Int.toNat_natCast, show IntKind.i64.bits = 64 from rfl]; omega, two_pow]
 rw [show (a : Int) * ((2 ^ n : Nat) : Int) = ((a * 2 ^ n : Nat) : Int) from rfl, w64 (by omega) (by omega)]
theorem tail_at {n : Nat} (h : n < 4294967296) : ior .i64 (ior .i64 (ior .i64 ((n % 256 : Nat) : Int) (ishl .i64 ((n / 256 % 256 : Nat) : Int) 8)) (ishl .i64 ((n / 65536 % 256 : Nat) : Int) 16)) (ishl .i64 ((n / 16777216 % 256 : Nat) : Int) 24) = (n : Int) := by
 have e1 := ishl_i64 (a := n / 256 % 256) (n := 8) (by decide) (by omega)
 have e2 := ishl_i64 (a := n / 65536 % 256) (n := 16) (by decide) (by omega)
 have e3 := ishl_i64 (a := n / 16777216 % 256) (n := 24) (by decide) (by omega)
 rw [show ((8 : Nat) : Int) = 8 from rfl] at e1
 rw [show ((16 : Nat) : Int) = 16 from rfl] at e2
 rw [show ((24 : Nat) : Int) = 24 from rfl] at e3
 have p8 : (2 : Nat) ^ 8 = 256 := rfl
 have p16 : (2 : Nat) ^ 16 = 65536 := rfl
 have p24 : (2 : Nat) ^ 24 = 16777216 := rfl
 have o1 : n % 256 ||| n / 256 % 256 * 2 ^ 8 = n % 256 + n / 256 % 256 * 2 ^ 8 := or_top (by omega) _
 rw [e1, e2, e3, ior_i64 (by omega) (by omega), o1]
 have o2 : n % 256 + n / 256 % 256 * 2 ^ 8 ||| n / 65536 % 256 * 2 ^ 16 = n % 256 + n / 256 % 256 * 2 ^ 8 + n / 65536 % 256 * 2 ^ 16 := or_top (by omega) _
 rw [ior_i64 (by omega) (by omega), o2]
 have o3 : n % 256 + n / 256 % 256 * 2 ^ 8 + n / 65536 % 256 * 2 ^ 16 ||| n / 16777216 % 256 * 2 ^ 24 = n % 256 + n / 256 % 256 * 2 ^ 8 + n / 65536 % 256 * 2 ^ 16 + n / 16777216 % 256 * 2 ^ 24 := or_top (by omega) _
 rw [ior_i64 (by omega) (by omega), o3]
 omega
def openL (l : List S44) (k : Int) : S83 := ⟨pagesL (pcs 64 l), k, cksL (pcs 64 l) 0⟩
section
variable {k : Int} {l : List S44} (h : Seg k l)
include h
theorem Seg.bytes : Bs (segL l k.toNat) ∧ (segL l k.toNat).length = (pagesL (pcs 64 l)).length + (footL k.toNat (cksL (pcs 64 l) 0)).length + 22 := by
 obtain ⟨c1, c2, c3, c4, c5⟩ := h.cks
 obtain ⟨f1, f2⟩ := h.foot
 have e1 := pageL_len 102 (footL k.toNat (cksL (pcs 64 l) 0))
 have e2 := pageL_len 116 (fourL (pagesL (pcs 64 l)).length)
 rw [fourL_len] at e2
 unfold segL
 exact ⟨(c5.app (pageL_bs (by decide) f2)).app (pageL_bs (by decide) (fourL_bs _)), by simp only [List.length_append]; omega⟩
theorem Open_eq : segment_Open (segL l k.toNat) = some (some (openL l k), 0) := by
 obtain ⟨c1, c2, c3, c4, c5⟩ := h.cks
 obtain ⟨f1, f2⟩ := h.foot
 obtain ⟨b1, b2⟩ := h.bytes
 have e1 := pageL_len 102 (footL k.toNat (cksL (pcs 64 l) 0))
 have e2 := pageL_len 116 (fourL (pagesL (pcs 64 l)).length)
 rw [fourL_len] at e2
 have r1 := pageR_laid (p := pagesL (pcs 64 l) ++ pageL 102 (footL k.toNat (cksL (pcs 64 l) 0))) (b := fourL (pagesL (pcs 64 l)).length) (q := []) (kind := 116) (by simp [fourL_len])
 have r2 := pageR_laid (p := pagesL (pcs 64 l)) (b := footL k.toNat (cksL (pcs 64 l) 0)) (q := pageL 116 (fourL (pagesL (pcs 64 l)).length)) (kind := 102) (by omega)
 rw [List.append_nil, show pagesL (pcs 64 l) ++ pageL 102 (footL k.toNat (cksL (pcs 64 l) 0)) ++ pageL 116 (fourL (pagesL (pcs 64 l)).length) = segL l k.toNat from rfl] at r1
 rw [show pagesL (pcs 64 l) ++ pageL 102 (footL k.toNat (cksL (pcs 64 l) 0)) ++ pageL 116 (fourL (pagesL (pcs 64 l)).length) = segL l k.toNat from rfl] at r2
 have hft := foot_eq h
 have htk : (segL l k.toNat).take (pagesL (pcs 64 l)).length = pagesL (pcs 64 l) := by unfold segL; rw [List.append_assoc, List.take_left' rfl]
 unfold openL
 rw [List.length_append] at r1
 generalize segL l k.toNat = B at *
 generalize footL k.toNat (cksL (pcs 64 l) 0) = Ft at *
 generalize cksL (pcs 64 l) 0 = cks at *
 generalize pagesL (pcs 64 l) = Pg at *
 unfold segment_Open
 rw [if_neg (by simp only [decide_eq_true_eq]; omega)]
 simp only [lt_]
 rw [w64 (n := (B.length : Int) - 13) (by omega) (by omega), show (B.length : Int) - 13 = ((Pg.length + (pageL 102 Ft).length : Nat) : Int) by omega, page_Read_eq b1 (by omega), r1]
 simp only [Option.bind_some]
 rw [if_neg (by simp), if_neg (by simp), if_neg (by rw [fourL_len]; simp)]
 unfold segment_Open_j1
 rw [if_neg (by simp only [bne_iff_ne, ne_eq, Decidable.not_not]; omega)]
 simp only [show at_ (fourL Pg.length) 0 = some ((Pg.length % 256 : Nat) : Int) from rfl, show at_ (fourL Pg.length) 1 = some ((Pg.length / 256 % 256 : Nat) : Int) from rfl, show at_ (fourL Pg.length) 2 = some ((Pg.length / 65536 % 256 : Nat) : Int) from rfl, show at_ (fourL Pg.length) 3 = some ((Pg.length / 16777216 % 256 : Nat) : Int) from rfl, Option.bind_some, lt_]
 rw [w64 (n := ((Pg.length % 256 : Nat) : Int)) (by omega) (by omega), w64 (n := ((Pg.length / 256 % 256 : Nat) : Int)) (by omega) (by omega), w64 (n := ((Pg.length / 65536 % 256 : Nat) : Int)) (by omega) (by omega), w64 (n := ((Pg.length / 16777216 % 256 : Nat) : Int)) (by omega) (by omega), tail_at (by omega)]
 rw [w64 (n := (B.length : Int) - 13) (by omega) (by omega), if_neg (by simp only [decide_eq_true_eq]; omega), page_Read_eq b1 (by omega), r2]
 simp only [Option.bind_some]
 have hcut := cut_nat (xs := B) (l := 0) (u := Pg.length) (by omega) (by omega)
 rw [htk, List.drop_zero, show ((0 : Nat) : Int) = 0 from rfl] at hcut
 rw [if_neg (by simp), hcut]
 simp only [Option.bind_some]
 rw [clone_bytes (by omega)]
 simp only [Option.bind_some]
 rw [if_neg (by simp), if_neg (by simp only [bne_iff_ne, ne_eq, Decidable.not_not]; omega)]
 unfold Try_segment_Segment_foot
 rw [hft]
 rfl
theorem Chunks_eq : segment_Segment_Chunks (some (openL l k)) = some (cksL (pcs 64 l) 0) := by
 obtain ⟨c1, c2, c3, c4, c5⟩ := h.cks
 have hn := cksL_len (pcs 64 l) 0
 have := h.num
 unfold segment_Segment_Chunks openL
 simp only
 unfold slices_Clone_segment_Chunk_segment_Chunk
 have hne : (cksL (pcs 64 l) 0).isEmpty = false := by
  cases hc : cksL (pcs 64 l) 0 with
  | nil => rw [hc] at hn; simp at hn; omega
  | cons _ _ => rfl
 rw [hne]
 show (chk _ _).bind _ = _
 rw [chk_pos (by simp; omega)]
 rfl
theorem WL_eq : WL k l = (segL l k.toNat, 0) := by
 obtain ⟨a, ha0, ha1, hr⟩ := h.run
 have h1 := h.k1
 have h2 := h.k8
 have h3 := h.ps
 have h4 := h.le
 unfold WL
 rw [if_neg (by omega), if_neg (by omega)]
 have hx := List.getElem?_eq_getElem (l := l) (i := 0) (by omega)
 have e : (l.head?.map (·.f0) |>.getD 0) = a := by
  rw [List.head?_eq_getElem?, hx]
  have := hr.of 0 _ hx
  simp at this ⊢
  exact this
 rw [e, flt_none (by simpa using hr)]
end
def wakeL (n : Nat) : List S44 := (List.range n).map fun i : Nat => ⟨(i : Int), 0, (i : Int), [], 0⟩
theorem wakeL_at {n i : Nat} {x : S44} (h : (wakeL n)[i]? = some x) : x = ⟨(i : Int), 0, (i : Int), [], 0⟩ ∧ i < n := by
 unfold wakeL at h
 rw [List.getElem?_map] at h
 obtain ⟨j, hj, rfl⟩ := Option.map_eq_some_iff.1 h
 obtain ⟨hlt, rfl⟩ := List.getElem?_eq_some_iff.1 hj
 rw [List.getElem_range]
 exact ⟨rfl, by simpa using hlt⟩
theorem wake_seg : Seg 1 (wakeL 130) := by
 have hm : ∀ e ∈ wakeL 130, ∃ i : Nat, i < 130 ∧ e = ⟨(i : Int), 0, (i : Int), [], 0⟩ := fun e he => by
  obtain ⟨i, hi⟩ := List.getElem?_of_mem he
  obtain ⟨q1, q2⟩ := wakeL_at hi
  exact ⟨i, q2, q1⟩
 refine ⟨by decide, by decide, by simp [wakeL], by simp [wakeL], 0, by decide, by simp [wakeL], fun e he => ?_, fun e he => ?_, fun i x hx => ?_⟩
 ·obtain ⟨i, hi, rfl⟩ := hm e he
  unfold formB
  simp
  omega
 ·obtain ⟨i, hi, rfl⟩ := hm e he
  exact ⟨⟨by show (0 : Int) ≤ (i : Int); omega, by show (i : Int) < _; omega⟩, by show 0 < _; decide⟩
 ·obtain ⟨rfl, _⟩ := wakeL_at hx
  show (i : Int) = 0 + i
  omega
theorem awake7_eq : law07_awake = some true := by
 have hk := loop_to (b := fun s : List S44 × Int => law07_awake_l1 s.1 s.2) (fun i => (wakeL i, (i : Int))) (t := wakeL 130) 130 (fun i hi => by
  show law07_awake_l1 (wakeL i) (i : Int) = _
  unfold law07_awake_l1
  rw [if_pos (by simp only [decide_eq_true_eq]; omega)]
  simp only [lt_]
  rw [u64w (n := (i : Int)) (by omega) (by omega), chk_pos (by simp [wakeL]; omega), w64 (by omega) (by omega)]
  unfold wakeL
  rw [List.range_succ, List.map_append]
  rfl) (by
  show law07_awake_l1 (wakeL 130) ((130 : Nat) : Int) = _
  unfold law07_awake_l1
  rw [if_neg (by decide)])
 have h := wake_seg
 have hg : ∀ e ∈ wakeL 130, Gd e := by obtain ⟨a, _, _, hr⟩ := h.run; exact hr.gd
 unfold law07_awake
 rw [show (([] : List S44), (0 : Int)) = (wakeL 0, ((0 : Nat) : Int)) from rfl, hk]
 simp only [Option.bind_some]
 unfold law07_awake_x1_0 law07_awake_b1
 rw [Write_eq hg 1 (by simp [wakeL]), WL_eq h]
 simp only [Option.bind_some]
 rw [Open_eq h]
 simp only [Option.bind_some]
 rw [if_neg (by simp)]
 unfold law07_awake_j1
 rw [if_neg (by simp)]
 simp only
 rw [Chunks_eq h]
 simp only [Option.bind_some]
 have hl : (wakeL 130).length = 130 := by simp [wakeL]
 have hn : (cksL (pcs 64 (wakeL 130)) 0).length = 3 := by rw [cksL_len, pcs_len, hl]
 rw [if_pos (by rw [hn]; rfl)]
 have h0 := List.getElem?_eq_getElem (l := cksL (pcs 64 (wakeL 130)) 0) (i := 0) (by omega)
 have h2 := List.getElem?_eq_getElem (l := cksL (pcs 64 (wakeL 130)) 0) (i := 2) (by omega)
 obtain ⟨_, _, _, _, _, _, _, _, e0⟩ := h.at_ h0
 obtain ⟨_, _, _, _, _, _, _, _, e2⟩ := h.at_ h2
 rw [hl] at e0 e2
 rw [show at_ (cksL (pcs 64 (wakeL 130)) 0) 0 = _ from at_int (n := 0) rfl h0]
 simp only [Option.bind_some]
 rw [if_pos (by rw [e0]; rfl), show at_ (cksL (pcs 64 (wakeL 130)) 0) 2 = _ from at_int (n := 2) rfl h2]
 simp only [Option.bind_some]
 rw [if_pos (by rw [e2]; rfl)]
theorem stretch_loop (a0 : List S44) (hg : ∀ e ∈ a0, Gd e) (f k : Int) (hf : 0 ≤ f ∧ f ≤ 4294967296) : ∀ (n i : Nat) (out : List S44), i + n = min a0.length 150 → Run k f out → out.length ≤ i →
  ∃ m, loop (fun s : List S44 × Int => law07_stretch_l1 a0 f k s.1 s.2) (out, (i : Int)) = some m ∧ Run k f m ∧ m.length ≤ 150
 | 0, i, out, hi, hr, hl => by
  refine ⟨out, loop_end ?_, hr, by omega⟩
  show law07_stretch_l1 a0 f k out (i : Int) = _
  unfold law07_stretch_l1 law07_stretch_j1
  by_cases h : i < a0.length
  ·rw [if_pos (by simp only [decide_eq_true_eq]; omega), show decide ((i : Int) < 150) = false by simp only [decide_eq_false_iff_not]; omega]; rfl
  ·rw [if_neg (by simp only [decide_eq_true_eq]; omega)]; rfl
 | n + 1, i, out, hi, hr, hl => by
  have hil : i < a0.length := by omega
  have hx := List.getElem?_eq_getElem (l := a0) (i := i) hil
  obtain ⟨g1, g2⟩ := hg _ (List.getElem_mem hil)
  generalize a0[i] = e at hx g1 g2
  have hstep : law07_stretch_l1 a0 f k out (i : Int) = some (.inl (if formB ⟨f + out.length, e.f1, e.f2, e.f3, e.f4⟩ k = true then out ++ [⟨f + out.length, e.f1, e.f2, e.f3, e.f4⟩] else out, ((i + 1 : Nat) : Int))) := by
   unfold law07_stretch_l1 law07_stretch_j1
   rw [if_pos (by simp only [decide_eq_true_eq]; omega), show decide ((i : Int) < 150) = true by simp only [decide_eq_true_eq]; omega, if_pos rfl, at_int rfl hx]
   simp only [Option.bind_some, lt_]
   rw [u64w (n := (out.length : Int)) (by omega) (by omega), u64w (n := f + (out.length : Int)) (by omega) (by omega), rForm_is]
   simp only [Option.bind_some]
   split
   ·rw [chk_pos (by simp; omega)]
    unfold law07_stretch_b2
    rw [lt_, w64 (by omega) (by omega)]; rfl
   ·unfold law07_stretch_b2
    rw [lt_, w64 (by omega) (by omega)]; rfl
  by_cases hb : formB ⟨f + out.length, e.f1, e.f2, e.f3, e.f4⟩ k = true
  ·rw [if_pos hb] at hstep
   have hr' : Run k f (out ++ [⟨f + out.length, e.f1, e.f2, e.f3, e.f4⟩]) := by
    refine ⟨fun x hx => ?_, fun x hx => ?_, fun j x hx => ?_⟩
    ·rcases List.mem_append.1 hx with h | h
     ·exact hr.fm x h
     ·simp at h; subst h; exact hb
    ·rcases List.mem_append.1 hx with h | h
     ·exact hr.gd x h
     ·simp at h; subst h
      exact ⟨⟨by show 0 ≤ f + (out.length : Int); omega, by show f + (out.length : Int) < _; omega⟩, g2⟩
    ·rw [List.getElem?_append] at hx
     split at hx
     ·exact hr.of j x hx
     ·rename_i hj
      cases hjo : j - out.length with
      | zero =>
       rw [hjo] at hx
       simp at hx
       subst hx
       show f + (out.length : Int) = f + j
       omega
      | succ q => rw [hjo] at hx; simp at hx
   obtain ⟨m, h1, h2, h3⟩ := stretch_loop a0 hg f k hf n (i + 1) _ (by omega) hr' (by simp; omega)
   exact ⟨m, (loop_nxt hstep).trans h1, h2, h3⟩
  ·rw [if_neg hb] at hstep
   obtain ⟨m, h1, h2, h3⟩ := stretch_loop a0 hg f k hf n (i + 1) out (by omega) hr (by omega)
   exact ⟨m, (loop_nxt hstep).trans h1, h2, h3⟩
theorem stretch_eq {a0 : List S44} (hg : ∀ e ∈ a0, Gd e) {f k : Int} (hf : 0 ≤ f ∧ f ≤ 4294967296) : ∃ m, law07_stretch a0 f k = some m ∧ Run k f m ∧ m.length ≤ 150 := by
 obtain ⟨m, h1, h2, h3⟩ := stretch_loop a0 hg f k hf (min a0.length 150) 0 [] (by omega) ⟨fun e he => (by cases he), fun e he => (by cases he), fun i x hx => (by simp at hx)⟩ (Nat.le_refl _)
 refine ⟨m, ?_, h2, h3⟩
 unfold law07_stretch
 rw [show (([] : List S44), (0 : Int)) = ([], ((0 : Nat) : Int)) from rfl, h1]
 rfl
theorem Run.seg {k f : Int} {m : List S44} (h : Run k f m) (hk : 1 ≤ k ∧ k ≤ 8) (hf : 0 ≤ f ∧ f ≤ 4294967296) (h0 : 0 < m.length) (hl : m.length ≤ 150) : Seg k m :=
 ⟨hk.1, hk.2, h0, by omega, f, hf.1, by omega, h⟩
def wantB (f : S33) (e : S44) : Bool := decide (f.f0 ≤ e.f0) && (decide (e.f0 < f.f1) && (decide (f.f2 ≤ e.f2) && decide (e.f2 ≤ f.f3)))
def mayB (f : S33) (c : S41) : Bool := decide (f.f0 < f.f1) && (decide (f.f0 ≤ c.f3) && (decide (c.f2 < f.f1) && (decide (f.f2 ≤ f.f3) && (decide (f.f2 ≤ c.f5) && decide (c.f4 ≤ f.f3)))))
theorem Wants_is (f : S33) (e : S44) : segment_Filter_Wants f e = some (wantB f e) := by
 unfold segment_Filter_Wants wantB
 cases decide (f.f0 ≤ e.f0) <;> cases decide (e.f0 < f.f1) <;> cases decide (f.f2 ≤ e.f2) <;> rfl
theorem May_is (f : S33) (c : S41) : segment_Filter_May f c = some (mayB f c) := by
 unfold segment_Filter_May mayB
 cases decide (f.f0 < f.f1) <;> cases decide (f.f0 ≤ c.f3) <;> cases decide (c.f2 < f.f1) <;> cases decide (f.f2 ≤ f.f3) <;> cases decide (f.f2 ≤ c.f5) <;> rfl
theorem ckL_bd (l : List S44) (p : Int) : ∀ e ∈ l, (ckL l p).f2 ≤ e.f0 ∧ e.f0 ≤ (ckL l p).f3 ∧ (ckL l p).f4 ≤ e.f2 ∧ e.f2 ≤ (ckL l p).f5 := fun e he => by
 cases l with
 | nil => cases he
 | cons x r =>
  obtain ⟨⟨_, a2⟩, ⟨_, b2⟩, ⟨_, c2⟩, _, d2⟩ := fold_bd (x :: r) (ck0 (x :: r) p x)
  exact ⟨a2 e he, b2 e he, c2 e he, d2 e he⟩
theorem want_may {f : S33} {l : List S44} {p : Int} (h : mayB f (ckL l p) = false) : l.filter (wantB f) = [] := by
 rw [List.filter_eq_nil_iff]
 intro e he hw
 obtain ⟨b1, b2, b3, b4⟩ := ckL_bd l p e he
 unfold wantB at hw
 simp only [Bool.and_eq_true, decide_eq_true_eq] at hw
 have : mayB f (ckL l p) = true := by
  unfold mayB
  simp only [Bool.and_eq_true, decide_eq_true_eq]
  omega
 rw [h] at this
 cases this
theorem ckL_back (l : List S44) (p : Int) : ckL (l.map backE) p = ckL l p := by
 have key : ∀ (l : List S44) (c : S41), (l.map backE).foldl ckF c = l.foldl ckF c := by
  intro l
  induction l with
  | nil => intro c; rfl
  | cons e l ih => intro c; exact ih (ckF c e)
 cases l with
 | nil => rfl
 | cons e r =>
  show ((e :: r).map backE).foldl ckF (ck0 ((e :: r).map backE) p (backE e)) = _
  rw [key, show ck0 ((e :: r).map backE) p (backE e) = ck0 (e :: r) p e from by unfold ck0; rw [List.length_map]; rfl]
  rfl
theorem eqS_self (c : S41) : eq41 c c = true := by
 unfold eq41
 simp
theorem filter_back (f : S33) (l : List S44) : (l.map backE).filter (wantB f) = (l.filter (wantB f)).map backE := by
 rw [List.filter_map]; rfl
section
variable {k : Int} {l : List S44} (h : Seg k l) (f : S33)
include h
theorem scan_inn {c : S41} {Y : List S44 × Int × Int} {m : List S44} {a : Int} (hY : Y.1 = m.map backE) (hm : Run k a m) (ha : 0 ≤ a ∧ a + m.length ≤ 1099511627776) (hl : m.length ≤ 64) (hc : c.f2 = a) (out : List S44) (ho : out.length ≤ 1024) :
  loop (fun s : List S44 × Int => segment_Segment_Scan_l2 f c Y s.1 s.2) (out, 0) = some (.inl (out ++ (m.map backE).filter (wantB f))) := by
 have hb : ∀ j, ((m.map backE).take j |>.filter (wantB f)).length ≤ 64 := fun j => by
  have := List.length_filter_le (wantB f) ((m.map backE).take j)
  simp at this ⊢
  omega
 have hk := loop_to (b := fun s : List S44 × Int => segment_Segment_Scan_l2 f c Y s.1 s.2) (fun j => (out ++ ((m.map backE).take j).filter (wantB f), (j : Int))) (t := .inl (out ++ (m.map backE).filter (wantB f))) m.length (fun j hj => by
  have hx : (m.map backE)[j]? = some (backE m[j]) := by rw [List.getElem?_map, List.getElem?_eq_getElem hj]; rfl
  have ho' := hm.of j _ (List.getElem?_eq_getElem hj)
  have hbj := hb j
  show segment_Segment_Scan_l2 f c Y (out ++ ((m.map backE).take j).filter (wantB f)) (j : Int) = _
  unfold segment_Segment_Scan_l2
  rw [hY, if_pos (by simp only [decide_eq_true_eq, List.length_map]; omega), at_int rfl hx]
  simp only [Option.bind_some, lt_]
  rw [u64w (n := (j : Int)) (by omega) (by omega), hc, u64w (n := a + (j : Int)) (by omega) (by omega), if_neg (by simp only [bne_iff_ne, ne_eq, Decidable.not_not]; exact ho'), Wants_is]
  simp only [Option.bind_some]
  rw [List.take_add_one, hx, List.filter_append]
  simp only [Option.toList_some]
  cases hw : wantB f (backE m[j]) with
  | true =>
   rw [if_pos rfl, chk_pos (by simp only [List.length_append, List.length_cons, List.length_nil]; omega)]
   unfold segment_Segment_Scan_b4
   rw [lt_, w64 (by omega) (by omega), List.filter_cons_of_pos hw, List.filter_nil, List.append_assoc]
   rfl
  | false =>
   rw [if_neg (by simp)]
   unfold segment_Segment_Scan_b4
   rw [lt_, w64 (by omega) (by omega), List.filter_cons_of_neg (by rw [hw]; simp), List.filter_nil, List.append_nil]
   rfl) (by
  show segment_Segment_Scan_l2 f c Y _ ((m.length : Nat) : Int) = _
  unfold segment_Segment_Scan_l2
  rw [hY, if_neg (by simp), List.take_of_length_le (by simp)])
 rw [show (out, (0 : Int)) = (out ++ ((m.map backE).take 0).filter (wantB f), ((0 : Nat) : Int)) by simp, hk]
theorem Scan_eq : segment_Segment_Scan (some (openL l k)) f = some ((l.filter (wantB f)).map backE, (((cksL (pcs 64 l) 0).countP (mayB f) : Nat) : Int), 0) := by
 obtain ⟨n1, n2⟩ := h.num
 obtain ⟨c1, c2, c3, c4, c5⟩ := h.cks
 have hk8 := h.k8
 have hle := h.le
 have hat := fun {i x} => h.at_ (i := i) (x := x)
 have hn := cksL_len (pcs 64 l) 0
 obtain ⟨a, ha0, ha1, hr⟩ := h.run
 have hlen : (pcs 64 l).length = (l.length + 64 - 1) / 64 := pcs_len
 unfold segment_Segment_Scan
 simp only
 have hk := loop_to (b := fun s : List S44 × Int × Int => segment_Segment_Scan_l1 f (openL l k) s.1 s.2.1 s.2.2) (fun i => (((l.take (i * 64)).map backE).filter (wantB f), ((((cksL (pcs 64 l) 0).take i).countP (mayB f) : Nat) : Int), (i : Int)))
  (t := .inl ((l.map backE).filter (wantB f), (((cksL (pcs 64 l) 0).countP (mayB f) : Nat) : Int))) (pcs 64 l).length (fun i hi => by
   have hx := List.getElem?_eq_getElem (l := cksL (pcs 64 l) 0) (i := i) (by omega)
   obtain ⟨a', q0, q1, q2, q3, q4, q5, q6, q7⟩ := hat hx
   have haa : a = a' := by
    have w1 := hr.of 0 _ (List.getElem?_eq_getElem (by omega))
    have w2 := q1.of 0 _ (List.getElem?_eq_getElem (by omega))
    omega
   subst haa
   have hpc := pcs_get (q := 64) (by decide) q3
   have hcut := h.cut _ (List.mem_of_getElem? hpc)
   have hrc := (hr.drop (i * 64)).take 64
   have htk : l.take ((i + 1) * 64) = l.take (i * 64) ++ (l.drop (i * 64)).take 64 := by rw [Nat.add_mul, Nat.one_mul, List.take_add]
   have hcl : ((l.drop (i * 64)).take 64).length = min 64 (l.length - i * 64) := by simp
   have hcnt : ((cksL (pcs 64 l) 0).take i).countP (mayB f) ≤ 16 := by
    have := List.countP_le_length (p := mayB f) (l := (cksL (pcs 64 l) 0).take i)
    simp at this
    omega
   have hof : (((l.take (i * 64)).map backE).filter (wantB f)).length ≤ 1024 := by
    have := List.length_filter_le (wantB f) ((l.take (i * 64)).map backE)
    simp at this ⊢
    omega
   have hcs : ((cksL (pcs 64 l) 0).take (i + 1)) = (cksL (pcs 64 l) 0).take i ++ [(cksL (pcs 64 l) 0)[i]'(by omega)] := by rw [List.take_add_one, hx]; rfl
   show segment_Segment_Scan_l1 f (openL l k) (((l.take (i * 64)).map backE).filter (wantB f)) ((((cksL (pcs 64 l) 0).take i).countP (mayB f) : Nat) : Int) (i : Int) = _
   rw [htk, hcs, List.map_append, List.filter_append, List.countP_append]
   generalize ((l.take (i * 64)).map backE).filter (wantB f) = out at hof ⊢
   generalize hn' : ((cksL (pcs 64 l) 0).take i).countP (mayB f) = n' at hcnt ⊢
   generalize hcc : (cksL (pcs 64 l) 0)[i]'(by omega) = c at q2 q4 q5 q6 q7 hx ⊢
   unfold segment_Segment_Scan_l1
   rw [show (openL l k).f2 = cksL (pcs 64 l) 0 from rfl, if_pos (by simp only [decide_eq_true_eq]; omega), at_int rfl hx]
   simp only [Option.bind_some]
   rw [May_is]
   simp only [Option.bind_some]
   cases hmay : mayB f c with
   | false =>
    rw [if_pos (show (!false) = true from rfl)]
    have hnil : ((l.drop (i * 64)).take 64).filter (wantB f) = [] := want_may (p := (((pagesL ((pcs 64 l).take i)).length : Nat) : Int)) (by rw [← q2]; exact hmay)
    rw [filter_back, hnil]
    unfold segment_Segment_Scan_b2
    rw [lt_, w64 (by omega) (by omega)]
    simp [hmay]
   | true =>
    rw [if_neg (by simp)]
    simp only [lt_]
    rw [w64 (n := ((n' : Nat) : Int) + 1) (by omega) (by omega), w64 (n := (i : Int) + 1) (by omega) (by omega)]
    have hsplit : pagesL (pcs 64 l) = pagesL ((pcs 64 l).take i) ++ pgL ((l.drop (i * 64)).take 64) ++ pagesL ((pcs 64 l).drop (i + 1)) := by
     have := List.take_append_drop i (pcs 64 l)
     rw [List.drop_eq_getElem_cons (by omega)] at this
     rw [List.getElem?_eq_getElem (by omega)] at hpc
     rw [Option.some.inj hpc] at this
     conv => lhs; rw [← this, pagesL_app]
     rw [List.append_assoc]
     rfl
    have hend : ∀ e : Int, e = (((pagesL ((pcs 64 l).take i)).length + (pgL ((l.drop (i * 64)).take 64)).length : Nat) : Int) →
      segment_Segment_Scan_j1 f (openL l k) out (i : Int) c (((n' : Nat) : Int) + 1) e = some (.inl (out ++ (((l.drop (i * 64)).take 64).map backE).filter (wantB f), ((n' : Nat) : Int) + 1, ((i + 1 : Nat) : Int))) := by
     intro e he
     unfold segment_Segment_Scan_j1
     rw [show (openL l k).f0 = pagesL (pcs 64 l) from rfl, show (openL l k).f1 = k from rfl, event_Read_eq c5 (by omega), q4]
     have hev := evR_back (l := (l.drop (i * 64)).take 64) (by omega) (hrc.laid hk8) k (pagesL ((pcs 64 l).take i)) (pagesL ((pcs 64 l).drop (i + 1)))
     rw [show pageL 101 (bodyL ((l.drop (i * 64)).take 64)) = pgL ((l.drop (i * 64)).take 64) from rfl, ← hsplit, if_pos (List.all_eq_true.2 hrc.fm)] at hev
     rw [hev]
     simp only [Option.bind_some]
     rw [if_pos (by rfl), if_neg (by simp only [bne_iff_ne, ne_eq, Decidable.not_not]; exact he.symm), if_neg (by simp only [bne_iff_ne, ne_eq, Decidable.not_not, List.length_map]; rw [hcl, q7]), chunk_eq (by rw [List.length_map]; exact hcut.ps) (by rw [List.length_map]; omega), ckL_back, ← q2]
     simp only [Option.bind_some, eqS_self]
     unfold segment_Segment_Scan_j3
     rw [if_neg (by simp)]
     unfold segment_Segment_Scan_j2
     rw [if_neg (by simp), scan_inn h f (m := (l.drop (i * 64)).take 64) rfl hrc (by omega) (by omega) q5 out (by omega)]
     simp only [Option.bind_some]
     unfold segment_Segment_Scan_x2_2 segment_Segment_Scan_b3 segment_Segment_Scan_b2
     rw [lt_, w64 (by omega) (by omega)]
     rfl
    have hcnt1 : ((n' + [c].countP (mayB f) : Nat) : Int) = ((n' : Nat) : Int) + 1 := by rw [List.countP_cons_of_pos hmay]; simp
    by_cases hlast : i + 1 < (pcs 64 l).length
    ·have hx2 := List.getElem?_eq_getElem (l := cksL (pcs 64 l) 0) (i := i + 1) (by omega)
     obtain ⟨_, _, _, _, _, p4, _⟩ := hat hx2
     rw [if_pos (by simp only [decide_eq_true_eq]; omega), at_int (n := i + 1) (by omega) hx2]
     simp only [Option.bind_some]
     rw [hend _ (by rw [p4, List.take_add_one, hpc, Option.toList_some, pagesL_app, List.length_append]; simp [pagesL]), hcnt1]
    ·rw [if_neg (by simp only [decide_eq_true_eq]; omega), hend _ (by
      rw [show (openL l k).f0 = pagesL (pcs 64 l) from rfl, hsplit, List.drop_of_length_le (l := pcs 64 l) (i := i + 1) (by omega)]
      simp [pagesL]), hcnt1]) (by
   show segment_Segment_Scan_l1 f (openL l k) _ _ (((pcs 64 l).length : Nat) : Int) = _
   unfold segment_Segment_Scan_l1
   rw [show (openL l k).f2 = cksL (pcs 64 l) 0 from rfl, if_neg (by simp only [decide_eq_true_eq]; omega), List.take_of_length_le (l := l) (by omega), List.take_of_length_le (l := cksL (pcs 64 l) 0) (by omega)])
 rw [show (([] : List S44), (0 : Int), (0 : Int)) = (((l.take (0 * 64)).map backE).filter (wantB f), ((((cksL (pcs 64 l) 0).take 0).countP (mayB f) : Nat) : Int), ((0 : Nat) : Int)) by simp, hk]
 simp only [Option.bind_some]
 rw [filter_back]
 rfl
end
section
variable (f : S33)
def inO (e : S44) : Bool := decide (f.f0 ≤ e.f0) && decide (e.f0 < f.f1)
theorem wt_step {l : List S44} {j q : Nat} {e : S44} (hx : l[q]? = some e) (hj : j ≤ 100000) (hq : q < j + 64) (out : List S44) (ho : out.length ≤ 100000) (o b a : Bool) :
  r07_Wants_l2 l f.f0 f.f1 f.f2 f.f3 (j : Int) out o b a (q : Int) = some (.inl (if wantB f e = true then out ++ [e] else out, o || inO f e, b || decide (e.f2 ≤ f.f3), a || decide (f.f2 ≤ e.f2), ((q + 1 : Nat) : Int))) := by
 have hlt := (List.getElem?_eq_some_iff.1 hx).1
 have j6 : ∀ o b a w, r07_Wants_j6 out (q : Int) e o b a w = some (.inl (if w = true then out ++ [e] else out, o, b, a, ((q + 1 : Nat) : Int))) := by
  intro o b a w
  unfold r07_Wants_j6
  cases w with
  | true =>
   rw [if_pos rfl, chk_pos (by simp; omega)]
   unfold r07_Wants_b4
   rw [lt_, w64 (by omega) (by omega)]; rfl
  | false =>
   rw [if_neg (by simp)]
   unfold r07_Wants_b4
   rw [lt_, w64 (by omega) (by omega)]; rfl
 have j5 : ∀ o b a, r07_Wants_j5 f.f0 f.f1 f.f2 f.f3 out (q : Int) e o b a = some (.inl (if wantB f e = true then out ++ [e] else out, o, b, a, ((q + 1 : Nat) : Int))) := by
  intro o b a
  unfold r07_Wants_j5 wantB
  simp only [j6]
  cases decide (f.f0 ≤ e.f0) <;> cases decide (e.f0 < f.f1) <;> cases decide (f.f2 ≤ e.f2) <;> rfl
 have j4 : ∀ o b, r07_Wants_j4 f.f0 f.f1 f.f2 f.f3 out a (q : Int) e o b = some (.inl (if wantB f e = true then out ++ [e] else out, o, b, a || decide (f.f2 ≤ e.f2), ((q + 1 : Nat) : Int))) := by
  intro o b
  unfold r07_Wants_j4
  simp only [j5]
  cases a <;> rfl
 have j3 : ∀ o, r07_Wants_j3 f.f0 f.f1 f.f2 f.f3 out b a (q : Int) e o = some (.inl (if wantB f e = true then out ++ [e] else out, o, b || decide (e.f2 ≤ f.f3), a || decide (f.f2 ≤ e.f2), ((q + 1 : Nat) : Int))) := by
  intro o
  unfold r07_Wants_j3
  simp only [j4]
  cases b <;> rfl
 unfold r07_Wants_l2
 rw [if_pos (by simp only [decide_eq_true_eq]; omega), lt_, w64 (by omega) (by omega), show decide ((q : Int) < (j : Int) + 64) = true by simp only [decide_eq_true_eq]; omega]
 unfold r07_Wants_j2
 rw [if_pos rfl, at_int rfl hx]
 simp only [Option.bind_some, j3]
 unfold inO
 cases o <;> cases decide (f.f0 ≤ e.f0) <;> cases decide (e.f0 < f.f1) <;> rfl
theorem wt_in {l : List S44} {j : Nat} (hj : j < l.length) (hl : l.length ≤ 1024) (out : List S44) (ho : out.length ≤ 1024) :
  loop (fun s : List S44 × Bool × Bool × Bool × Int => r07_Wants_l2 l f.f0 f.f1 f.f2 f.f3 (j : Int) s.1 s.2.1 s.2.2.1 s.2.2.2.1 s.2.2.2.2) (out, false, false, false, (j : Int)) =
   some (out ++ ((l.drop j).take 64).filter (wantB f), ((l.drop j).take 64).any (inO f), ((l.drop j).take 64).any (fun e => decide (e.f2 ≤ f.f3)), ((l.drop j).take 64).any (fun e => decide (f.f2 ≤ e.f2))) := by
 obtain ⟨m, hm⟩ : ∃ m, m = (l.drop j).take 64 := ⟨_, rfl⟩
 have hml : m.length = min 64 (l.length - j) := by subst hm; simp
 have hb : ∀ q, ((m.take q).filter (wantB f)).length ≤ 64 := fun q => by
  have := List.length_filter_le (wantB f) (m.take q)
  simp at this
  omega
 rw [← hm]
 have hk := loop_to (b := fun s : List S44 × Bool × Bool × Bool × Int => r07_Wants_l2 l f.f0 f.f1 f.f2 f.f3 (j : Int) s.1 s.2.1 s.2.2.1 s.2.2.2.1 s.2.2.2.2)
  (fun q => (out ++ (m.take q).filter (wantB f), (m.take q).any (inO f), (m.take q).any (fun e => decide (e.f2 ≤ f.f3)), (m.take q).any (fun e => decide (f.f2 ≤ e.f2)), ((j + q : Nat) : Int)))
  (t := (out ++ m.filter (wantB f), m.any (inO f), m.any (fun e => decide (e.f2 ≤ f.f3)), m.any (fun e => decide (f.f2 ≤ e.f2)))) m.length (fun q hq => by
   have hx := List.getElem?_eq_getElem (l := m) (i := q) hq
   have hx' : l[j + q]? = some m[q] := by
    have h3 : m[q]? = if q < 64 then l[j + q]? else none := by rw [hm, List.getElem?_take, List.getElem?_drop]
    rw [hx, if_pos (by omega)] at h3
    exact h3.symm
   have hbq := hb q
   refine (wt_step f hx' (by omega) (by omega) _ (by simp only [List.length_append]; omega) _ _ _).trans ?_
   rw [List.take_add_one, hx, List.filter_append, List.any_append, List.any_append, List.any_append]
   simp only [Option.toList_some, List.any_cons, List.any_nil, Bool.or_false]
   cases hw : wantB f m[q] with
   | true => rw [if_pos rfl, List.filter_cons_of_pos hw, List.filter_nil, List.append_assoc]; rfl
   | false => rw [if_neg (by simp), List.filter_cons_of_neg (by rw [hw]; simp), List.filter_nil, List.append_nil]; rfl) (by
   show r07_Wants_l2 l f.f0 f.f1 f.f2 f.f3 (j : Int) _ _ _ _ ((j + m.length : Nat) : Int) = _
   unfold r07_Wants_l2 r07_Wants_j2
   rw [List.take_length]
   by_cases hc : j + m.length < l.length
   ·rw [if_pos (by simp only [decide_eq_true_eq]; omega), lt_, w64 (by omega) (by omega), show decide (((j + m.length : Nat) : Int) < (j : Int) + 64) = false by simp only [decide_eq_false_iff_not]; omega]; rfl
   ·rw [if_neg (by simp only [decide_eq_true_eq]; omega)]; rfl)
 rw [show (out, false, false, false, (j : Int)) = (out ++ (m.take 0).filter (wantB f), (m.take 0).any (inO f), (m.take 0).any (fun e => decide (e.f2 ≤ f.f3)), (m.take 0).any (fun e => decide (f.f2 ≤ e.f2)), ((j + 0 : Nat) : Int)) by simp, hk]
theorem may_same {k a : Int} {c : List S44} (hr : Run k a c) (hc : 0 < c.length) (p : Int) :
  mayB f (ckL c p) = (c.any (inO f) && (c.any (fun e => decide (e.f2 ≤ f.f3)) && (c.any (fun e => decide (f.f2 ≤ e.f2)) && decide (f.f2 ≤ f.f3)))) := by
 obtain ⟨e2, e3⟩ := ck_from hr hc p
 have hbd := ckL_bd c p
 obtain ⟨x, y, hx, hy, ex, ey, mx, my⟩ := run_last hr hc
 have e : ckL c p = c.foldl ckF (ck0 c p x) := by
  cases c with
  | nil => simp at hc
  | cons z c => simp at hx; subst hx; rfl
 have hin := fold_in (fun _ => True) (fun v => ∃ e ∈ c, e.f2 = v) (fun _ => True) c (ck0 c p x) ⟨⟨trivial, trivial⟩, ⟨⟨x, mx, rfl⟩, ⟨x, mx, rfl⟩⟩, trivial, trivial⟩ fun e he => ⟨trivial, ⟨e, he, rfl⟩, trivial⟩
 rw [← e] at hin
 obtain ⟨_, ⟨⟨u, mu, eu⟩, w, mw, ew⟩, _⟩ := hin
 rw [Bool.eq_iff_iff]
 unfold mayB
 simp only [Bool.and_eq_true, decide_eq_true_eq, List.any_eq_true, inO]
 rw [e2, e3]
 constructor
 ·rintro ⟨h1, h2, h3, h4, h5, h6⟩
  refine ⟨?_, ⟨u, mu, by omega⟩, ⟨w, mw, by omega⟩, h4⟩
  -- the offset
  obtain ⟨i, hi, hv⟩ : ∃ i : Nat, i < c.length ∧ f.f0 ≤ a + i ∧ a + i < f.f1 := by
   by_cases hq : f.f0 ≤ a
   ·exact ⟨0, hc, by omega, by omega⟩
   ·exact ⟨(f.f0 - a).toNat, by omega, by omega, by omega⟩
  have hxi := List.getElem?_eq_getElem (l := c) (i := i) hi
  have := hr.of i _ hxi
  exact ⟨c[i], List.getElem_mem hi, by omega, by omega⟩
 ·rintro ⟨⟨o, mo, o1, o2⟩, ⟨u', mu', u1⟩, ⟨w', mw', w1⟩, h4⟩
  have b1 := hbd o mo
  have b2 := hbd u' mu'
  have b3 := hbd w' mw'
  rw [e2, e3] at b1
  omega
theorem rWants_eq {k : Int} {l : List S44} (h : Seg k l) : r07_Wants l f.f0 f.f1 f.f2 f.f3 = some (l.filter (wantB f), (((cksL (pcs 64 l) 0).countP (mayB f) : Nat) : Int)) := by
 obtain ⟨n1, n2⟩ := h.num
 have hle := h.le
 have hn := cksL_len (pcs 64 l) 0
 have hlen : (pcs 64 l).length = (l.length + 64 - 1) / 64 := pcs_len
 have hat := fun {i x} => h.at_ (i := i) (x := x)
 unfold r07_Wants
 have hk := loop_to (b := fun s : List S44 × Int × Int => r07_Wants_l1 l f.f0 f.f1 f.f2 f.f3 s.1 s.2.1 s.2.2) (fun i => ((l.take (i * 64)).filter (wantB f), ((((cksL (pcs 64 l) 0).take i).countP (mayB f) : Nat) : Int), ((i * 64 : Nat) : Int)))
  (t := (l.filter (wantB f), (((cksL (pcs 64 l) 0).countP (mayB f) : Nat) : Int))) (pcs 64 l).length (fun i hi => by
   have hx := List.getElem?_eq_getElem (l := cksL (pcs 64 l) 0) (i := i) (by omega)
   obtain ⟨a, q0, q1, q2, q3, q4, q5, q6, q7⟩ := hat hx
   have hrc := (q1.drop (i * 64)).take 64
   have hcl : ((l.drop (i * 64)).take 64).length = min 64 (l.length - i * 64) := by simp
   have hcnt : ((cksL (pcs 64 l) 0).take i).countP (mayB f) ≤ 16 := by
    have := List.countP_le_length (p := mayB f) (l := (cksL (pcs 64 l) 0).take i)
    simp at this
    omega
   have hof : ((l.take (i * 64)).filter (wantB f)).length ≤ 1024 := by
    have := List.length_filter_le (wantB f) (l.take (i * 64))
    simp at this
    omega
   show r07_Wants_l1 l f.f0 f.f1 f.f2 f.f3 ((l.take (i * 64)).filter (wantB f)) ((((cksL (pcs 64 l) 0).take i).countP (mayB f) : Nat) : Int) ((i * 64 : Nat) : Int) = _
   have htk : l.take ((i + 1) * 64) = l.take (i * 64) ++ (l.drop (i * 64)).take 64 := by rw [Nat.add_mul, Nat.one_mul, List.take_add]
   have hcs : ((cksL (pcs 64 l) 0).take (i + 1)) = (cksL (pcs 64 l) 0).take i ++ [(cksL (pcs 64 l) 0)[i]'(by omega)] := by rw [List.take_add_one, hx]; rfl
   rw [htk, hcs, List.filter_append, List.countP_append]
   generalize hcc : (cksL (pcs 64 l) 0)[i]'(by omega) = c at q2 ⊢
   have hmay := may_same f hrc (by omega) (((pagesL ((pcs 64 l).take i)).length : Nat) : Int)
   rw [← q2] at hmay
   generalize hn' : ((cksL (pcs 64 l) 0).take i).countP (mayB f) = n' at hcnt ⊢
   generalize (l.take (i * 64)).filter (wantB f) = out at hof ⊢
   unfold r07_Wants_l1
   rw [if_pos (by simp only [decide_eq_true_eq]; omega), wt_in f q3 hle out hof]
   simp only [Option.bind_some]
   generalize ((l.drop (i * 64)).take 64) = m at hmay ⊢
   have hfin : ∀ v : Bool, r07_Wants_j1 ((n' : Nat) : Int) ((i * 64 : Nat) : Int) (out ++ m.filter (wantB f)) v = some (.inl (out ++ m.filter (wantB f), (if v = true then ((n' : Nat) : Int) + 1 else ((n' : Nat) : Int)), (((i + 1) * 64 : Nat) : Int))) := by
    intro v
    unfold r07_Wants_j1 r07_Wants_b2
    cases v with
    | true => rw [if_pos rfl, if_pos rfl, lt_, w64 (by omega) (by omega), lt_, w64 (by omega) (by omega), show ((i * 64 : Nat) : Int) + 64 = (((i + 1) * 64 : Nat) : Int) by omega]
    | false => rw [if_neg (by simp), if_neg (by simp), lt_, w64 (by omega) (by omega), show ((i * 64 : Nat) : Int) + 64 = (((i + 1) * 64 : Nat) : Int) by omega]
   have hc1 : ((n' + [c].countP (mayB f) : Nat) : Int) = if mayB f c = true then ((n' : Nat) : Int) + 1 else ((n' : Nat) : Int) := by
    cases hm : mayB f c with
    | true => rw [if_pos rfl, List.countP_cons_of_pos hm]; simp
    | false => rw [if_neg (by simp), List.countP_cons_of_neg (by rw [hm]; simp)]; simp
   rw [hc1, hmay]
   unfold r07_Wants_x2_2 r07_Wants_b3
   simp only [hfin]
   cases m.any (inO f) <;> cases (m.any fun e => decide (e.f2 ≤ f.f3)) <;> cases (m.any fun e => decide (f.f2 ≤ e.f2)) <;> rfl) (by
   show r07_Wants_l1 l f.f0 f.f1 f.f2 f.f3 _ _ (((pcs 64 l).length * 64 : Nat) : Int) = _
   unfold r07_Wants_l1
   rw [if_neg (by simp only [decide_eq_true_eq]; omega), List.take_of_length_le (l := l) (by omega), List.take_of_length_le (l := cksL (pcs 64 l) 0) (by omega)])
 rw [show (([] : List S44), (0 : Int), (0 : Int)) = ((l.take (0 * 64)).filter (wantB f), ((((cksL (pcs 64 l) 0).take 0).countP (mayB f) : Nat) : Int), ((0 * 64 : Nat) : Int)) by simp, hk]
 rfl
end
theorem gI8 {a : Int} (h : gI .u8 a) : 0 ≤ a ∧ a < 256 := by
 unfold gI Lit.wf at h
 simp only [Bool.and_eq_true, decide_eq_true_eq] at h
 exact ⟨h.1, Int.lt_of_le_of_lt h.2 (by decide)⟩
theorem gI32 {a : Int} (h : gI .u32 a) : 0 ≤ a ∧ a < 4294967296 := by
 unfold gI Lit.wf at h
 simp only [Bool.and_eq_true, decide_eq_true_eq] at h
 exact ⟨h.1, Int.lt_of_le_of_lt h.2 (by decide)⟩
theorem parts_of {a : Int} (h : gI .u8 a) : 1 ≤ IntKind.i64.wrap (1 + (IntKind.i64.wrap a).tmod 8) ∧ IntKind.i64.wrap (1 + (IntKind.i64.wrap a).tmod 8) ≤ 8 := by
 obtain ⟨h1, h2⟩ := gI8 h
 obtain ⟨n, rfl⟩ : ∃ n : Nat, a = n := ⟨a.toNat, by omega⟩
 rw [w64 (n := (n : Int)) (by omega) (by omega), show (n : Int).tmod 8 = ((n % 8 : Nat) : Int) from rfl, w64 (by omega) (by omega)]
 omega
theorem opened {a0 : List S44} (h0 : gL 48 g44 a0) {f k : Int} (hf : 0 ≤ f ∧ f ≤ 4294967296) (hk : 1 ≤ k ∧ k ≤ 8) : ∃ m, law07_stretch a0 f k = some m ∧ m.length ≤ 150 ∧ (m.length = 0 ∨ Seg k m ∧ Run k f m ∧ segment_Write m k = some (segL m k.toNat, 0) ∧ segment_Open (segL m k.toNat) = some (some (openL m k), 0)) := by
 obtain ⟨m, h1, h2, h3⟩ := stretch_eq (gd_of h0) (k := k) hf
 refine ⟨m, h1, h3, ?_⟩
 rcases Nat.eq_zero_or_pos m.length with hz | hz
 ·exact .inl hz
 ·have hs := h2.seg hk hf hz h3
  exact .inr ⟨hs, h2, by rw [Write_eq h2.gd k (by omega), WL_eq hs], Open_eq hs⟩
theorem Range_eq {k f : Int} {m : List S44} (h : Seg k m) (hr : Run k f m) (hf : 0 ≤ f ∧ f ≤ 4294967296) : segment_Segment_Range (some (openL m k)) = some (f, f + m.length) := by
 obtain ⟨n1, n2⟩ := h.num
 have hle := h.le
 have hps := h.ps
 have hn := cksL_len (pcs 64 m) 0
 have hlen : (pcs 64 m).length = (m.length + 64 - 1) / 64 := pcs_len
 have hx := List.getElem?_eq_getElem (l := cksL (pcs 64 m) 0) (i := 0) (by omega)
 have hy := List.getElem?_eq_getElem (l := cksL (pcs 64 m) 0) (i := (cksL (pcs 64 m) 0).length - 1) (by omega)
 obtain ⟨a, q0, q1, q2, q3, q4, q5, q6, q7⟩ := h.at_ hx
 obtain ⟨b, p0, p1, p2, p3, p4, p5, p6, p7⟩ := h.at_ hy
 have w := List.getElem?_eq_getElem (l := m) (i := 0) hps
 have e1 := q1.of 0 _ w
 have e2 := p1.of 0 _ w
 have e3 := hr.of 0 _ w
 unfold segment_Segment_Range
 simp only
 rw [show (openL m k).f2 = cksL (pcs 64 m) 0 from rfl, show at_ (cksL (pcs 64 m) 0) 0 = _ from at_int (n := 0) rfl hx]
 simp only [Option.bind_some, lt_]
 rw [w64 (by omega) (by omega), at_int (n := (cksL (pcs 64 m) 0).length - 1) (by omega) hy]
 simp only [Option.bind_some]
 rw [u64w (by omega) (by omega), q5, p6]
 have : f + (m.length : Int) = b + ((min m.length (((cksL (pcs 64 m) 0).length - 1) * 64 + 64) : Nat) : Int) - 1 + 1 := by omega
 rw [this, show a + ((0 * 64 : Nat) : Int) = f by omega]
theorem SegmentScans (a0 : List S44) (a1 a2 : Int) (a3 : S33) (h0 : gL 48 g44 a0) (h1 : gI .u32 a1) (h2 : gI .u8 a2) (h3 : g33 a3) : law07_SegmentScans a0 a1 a2 a3 = some true := by
 have hk := parts_of h2
 obtain ⟨g1, g2⟩ := gI32 h1
 have hj : law07_SegmentScans_j1 a0 a1 a2 a3 true = some true := by
  unfold law07_SegmentScans_j1; rw [if_pos rfl, awake7_eq]; rfl
 unfold law07_SegmentScans
 rw [awake7_eq]
 simp only [Option.bind_some]
 rw [if_neg (by simp)]
 by_cases hl : 300 < a0.length
 ·rw [show decide (300 < (a0.length : Int)) = true by simp only [decide_eq_true_eq]; omega, hj]
 rw [show decide (300 < (a0.length : Int)) = false by simp only [decide_eq_false_iff_not]; omega]
 unfold law07_SegmentScans_j1
 rw [if_neg (by simp)]
 simp only [lt_]
 generalize IntKind.i64.wrap (1 + (IntKind.i64.wrap a2).tmod 8) = k at hk ⊢
 rw [u64w (n := a1) (by omega) (by omega)]
 obtain ⟨m, q1, q2, q3⟩ := opened h0 (f := a1) (k := k) (by omega) hk
 rw [q1]
 simp only [Option.bind_some]
 rcases q3 with hz | ⟨hs, hr, hw, ho⟩
 ·rw [if_pos (by simp [hz])]
 have hps := hs.ps
 rw [if_neg (by simp; intro e; simp [e] at hps), hw]
 simp only [Option.bind_some]
 rw [ho]
 simp only [Option.bind_some]
 rw [if_neg (by simp)]
 unfold law07_SegmentScans_j2
 rw [if_neg (by simp)]
 simp only
 rw [Range_eq hs hr (by omega), Scan_eq hs a3, rWants_eq a3 hs]
 simp only [Option.bind_some]
 have hloop := loop_to (b := fun s : Int => law07_SegmentScans_l1 a3 m s) (fun i => (i : Int)) (t := .inl ()) m.length (fun i hi => by
  have hx := List.getElem?_eq_getElem (l := m) (i := i) hi
  unfold law07_SegmentScans_l1
  rw [if_pos (by simp only [decide_eq_true_eq]; omega), at_int rfl hx]
  simp only [Option.bind_some]
  rw [Wants_is]
  simp only [Option.bind_some]
  have hj3 : law07_SegmentScans_j3 (i : Int) false = some (.inl ((i + 1 : Nat) : Int)) := by
   unfold law07_SegmentScans_j3
   rw [if_neg (by simp), lt_, w64 (by omega) (by omega)]; rfl
  unfold wantB
  cases decide (a3.f0 ≤ m[i].f0) <;> cases decide (m[i].f0 < a3.f1) <;> cases decide (a3.f2 ≤ m[i].f2) <;> cases decide (m[i].f2 ≤ a3.f3) <;> exact hj3) (by
  unfold law07_SegmentScans_l1
  rw [if_neg (by simp)])
 rw [show (0 : Int) = ((0 : Nat) : Int) from rfl, hloop]
 simp only [Option.bind_some]
 unfold law07_SegmentScans_x1_0 law07_SegmentScans_b1
 have hfl := List.length_filter_le (wantB a3) m
 rw [if_pos (by rfl), SameAll_back _ (by omega)]
 simp only [Option.bind_some]
 rw [if_pos trivial, if_pos (by simp), show segment_Segment_Parts (some (openL m k)) = some k from rfl]
 simp only [Option.bind_some, lt_]
 rw [if_pos (by simp), u64w (n := a1) (by omega) (by omega), if_pos (by simp), u64w (n := (m.length : Int)) (by omega) (by omega), u64w (by omega) (by omega)]
 simp
end Go.Proofs.YteodeedejjcmgaaDoor.P
