/- Texts of the claim, joined: what it uses of Sm, Sn, So. -/
import Derived.Test.YteodeedejjcmgaaDoorZh
namespace Go.Proofs.YteodeedejjcmgaaDoor.P
open Go Go.RowKit Go.Proofs.YteodeedejjcmgaaDoor.E Go.Proofs.YteodeedejjcmgaaDoor.M
set_option linter.unusedVariables false
set_option linter.unusedSectionVars false
theorem r7_step {c : List S44} {k : Nat} {e : S44} (hx : c[k]? = some e) (hk : k < 100000) (x1 x2 : Int) (s1 s2 : List UInt8) :
    r07_Write_l2 c x1 x2 s1 s2 (k : Int) = some (.inl (if e.f2 < x1 then e.f2 else x1, if x2 < e.f2 then e.f2 else x2, if (Op.bytesLess s1 e.f3 || s1 == e.f3) = true then s1 else e.f3, if Op.bytesLess s2 e.f3 = true then e.f3 else s2, ((k + 1 : Nat) : Int))) := by
  rw [← min_same, ← max_same]
  have hlt := (List.getElem?_eq_some_iff.1 hx).1
  have j5 : ∀ x y s, r07_Write_j5 c s2 (k : Int) x y s = some (.inl (x, y, s, if (!(Op.bytesLess e.f3 s2 || e.f3 == s2)) = true then e.f3 else s2, ((k + 1 : Nat) : Int))) := by
    intro x y s
    unfold r07_Write_j5
    rw [at_int rfl hx]
    simp only [Option.bind_some]
    split <;> (unfold r07_Write_b4; rw [lt_, w64 (by omega) (by omega)]; rfl)
  have j4 : ∀ x y, r07_Write_j4 c s1 s2 (k : Int) x y = some (.inl (x, y, if Op.bytesLess e.f3 s1 = true then e.f3 else s1, if (!(Op.bytesLess e.f3 s2 || e.f3 == s2)) = true then e.f3 else s2, ((k + 1 : Nat) : Int))) := by
    intro x y
    unfold r07_Write_j4
    rw [at_int rfl hx]
    simp only [Option.bind_some, j5]
    split <;> rfl
  have j3 : ∀ x, r07_Write_j3 c x2 s1 s2 (k : Int) x = some (.inl (x, if x2 < e.f2 then e.f2 else x2, if Op.bytesLess e.f3 s1 = true then e.f3 else s1, if (!(Op.bytesLess e.f3 s2 || e.f3 == s2)) = true then e.f3 else s2, ((k + 1 : Nat) : Int))) := by
    intro x
    unfold r07_Write_j3
    rw [at_int rfl hx]
    simp only [Option.bind_some, j4, decide_eq_true_eq]
    by_cases h : x2 < e.f2
    · rw [if_pos h, if_pos h]
    · rw [if_neg h, if_neg h]
  unfold r07_Write_l2
  rw [if_pos (by simp only [decide_eq_true_eq]; omega), at_int rfl hx]
  simp only [Option.bind_some, j3, decide_eq_true_eq]
  by_cases h : e.f2 < x1
  · rw [if_pos h, if_pos h]
  · rw [if_neg h, if_neg h]
theorem r7_scan {c : List S44} {e : S44} (h0 : c[0]? = some e) (hl : c.length ≤ 64) (a : Int) :
    loop (fun s : Int × Int × List UInt8 × List UInt8 × Int => r07_Write_l2 c s.1 s.2.1 s.2.2.1 s.2.2.2.1 s.2.2.2.2) (e.f2, e.f2, e.f3, e.f3, 0) = some ((ckL c a).f4, (ckL c a).f5, (ckL c a).f6, (ckL c a).f7) := by
  have e0 : ckL c a = c.foldl ckF (ck0 c a e) := by
    cases c with
    | nil => simp at h0
    | cons z c => simp at h0; subst h0; rfl
  rw [e0]
  have hk := loop_to (b := fun s : Int × Int × List UInt8 × List UInt8 × Int => r07_Write_l2 c s.1 s.2.1 s.2.2.1 s.2.2.2.1 s.2.2.2.2)
    (fun k => (((c.take k).foldl ckF (ck0 c a e)).f4, ((c.take k).foldl ckF (ck0 c a e)).f5, ((c.take k).foldl ckF (ck0 c a e)).f6, ((c.take k).foldl ckF (ck0 c a e)).f7, (k : Int)))
    (t := ((c.foldl ckF (ck0 c a e)).f4, (c.foldl ckF (ck0 c a e)).f5, (c.foldl ckF (ck0 c a e)).f6, (c.foldl ckF (ck0 c a e)).f7)) c.length (fun k hk => by
      have hx := List.getElem?_eq_getElem (l := c) (i := k) hk
      refine (r7_step hx (by omega) _ _ _ _).trans ?_
      rw [foldl_take ckF _ hx]
      rfl) (by
      show r07_Write_l2 c _ _ _ _ ((c.length : Nat) : Int) = _
      unfold r07_Write_l2
      rw [if_neg (by simp only [decide_eq_true_eq]; omega), List.take_length])
  exact hk
theorem r7_piece {k : Int} (hk : k ≤ 8) {c : List S44} (hc : Cut k c) {p ft : List Int} {n i : Nat} (hp : p.length ≤ 1000000) (hf : ft.length ≤ 1000000) (hn : n ≤ 100000) (hi : i ≤ 100000) :
    r07_Write_j2 p ft (n : Int) (i : Int) c = some (.inl (p ++ pgL c, ft ++ ckB (ckL c (p.length : Int)), ((n + 1 : Nat) : Int), ((i + 64 : Nat) : Int))) := by
  obtain ⟨a, ha0, ha1, hr⟩ := hc.run
  have hle := hc.le
  have hps := hc.ps
  obtain ⟨x, y, hx, hy, ex, ey, mx, my⟩ := run_last hr hps
  obtain ⟨e2, e3⟩ := ck_from hr hps (p.length : Int)
  obtain ⟨e0, e1⟩ := ckL_f0 c (p.length : Int)
  obtain ⟨r0, r1, r2, r4, r6⟩ := hc.ok (p := (p.length : Int)) (by omega)
  obtain ⟨hL, g1, g2, g3⟩ := hc.pg hk
  unfold r07_Write_j2
  rw [show at_ c 0 = some x from hx]
  simp only [Option.bind_some]
  rw [r7_scan hx hle (p.length : Int)]
  simp only [Option.bind_some]
  have eB : ckB (ckL c (p.length : Int)) = uv c.length ++ (uv p.length ++ (uv a.toNat ++ (uv (a + c.length - 1).toNat ++ (uv (zz (ckL c (p.length : Int)).f4) ++ (uv (zz (ckL c (p.length : Int)).f5) ++ (uv (ckL c (p.length : Int)).f6.length ++ (stb (ckL c (p.length : Int)).f6 ++ (uv (ckL c (p.length : Int)).f7.length ++ stb (ckL c (p.length : Int)).f7)))))))) := by
    unfold ckB
    rw [e0, e1, e2, e3]
    rfl
  rw [eB]
  generalize ckL c (p.length : Int) = z at *
  have q0 := uv_length64 (n := c.length) (by omega)
  have q1 := uv_length64 (n := p.length) (by omega)
  have q2 := uv_length64 (n := a.toNat) (by omega)
  have q3 := uv_length64 (n := (a + c.length - 1).toNat) (by omega)
  have i4 : i64 z.f4 := by unfold i64; omega
  have i5 : i64 z.f5 := by unfold i64; omega
  have q4 := uv_length64 (zz_lt i4)
  have q5 := uv_length64 (zz_lt i5)
  have q6 := uv_length64 (n := z.f6.length) (by omega)
  have q7 := uv_length64 (n := z.f7.length) (by omega)
  have l6 : (stb z.f6).length = z.f6.length := by simp [stb]
  have l7 : (stb z.f7).length = z.f7.length := by simp [stb]
  unfold r07_Write_x2_4 r07_Write_b3
  simp only [lt_]
  rw [u64w (n := (c.length : Int)) (by omega) (by omega), rUint_eq _ (by omega)]
  simp only [Option.bind_some]
  rw [chk_pos (by omega), u64w (n := (p.length : Int)) (by omega) (by omega), rUint_eq _ (by omega)]
  simp only [Option.bind_some]
  rw [chk_pos (by simp only [List.length_append]; omega), show at_ c 0 = some x from hx]
  simp only [Option.bind_some]
  rw [show x.f0 = ((a.toNat : Nat) : Int) by omega, rUint_eq _ (by omega)]
  simp only [Option.bind_some]
  rw [chk_pos (by simp only [List.length_append]; omega), w64 (n := (c.length : Int) - 1) (by omega) (by omega), at_int (n := c.length - 1) (by omega) hy]
  simp only [Option.bind_some]
  rw [show y.f0 = (((a + c.length - 1).toNat : Nat) : Int) by omega, rUint_eq _ (by omega)]
  simp only [Option.bind_some]
  rw [chk_pos (by simp only [List.length_append]; omega), rInt_eq i4]
  simp only [Option.bind_some]
  rw [chk_pos (by simp only [List.length_append]; omega), rInt_eq i5]
  simp only [Option.bind_some]
  rw [chk_pos (by simp only [List.length_append]; omega), rText_eq _ (by omega)]
  simp only [Option.bind_some]
  rw [chk_pos (by simp only [List.length_append]; omega), rText_eq _ (by omega)]
  simp only [Option.bind_some]
  rw [chk_pos (by simp only [List.length_append]; omega), r06_Lay_eq (by omega) hL]
  simp only [Option.bind_some]
  have hpg : pageL 101 (bodyL c) = pgL c := rfl
  rw [hpg, chk_pos (by omega), w64 (n := (n : Int) + 1) (by omega) (by omega), w64 (n := (i : Int) + 64) (by omega) (by omega)]
  simp only [List.append_assoc]
  rfl
theorem bytes_at {n : Nat} (h : n < 1099511627776) : [IntKind.u8.wrap (n : Int), IntKind.u8.wrap (IntKind.i64.wrap ((n : Int).tdiv 256)), IntKind.u8.wrap (IntKind.i64.wrap ((n : Int).tdiv 65536)), IntKind.u8.wrap (IntKind.i64.wrap ((n : Int).tdiv 16777216))] = fourL n := by
  rw [show (n : Int).tdiv 256 = ((n / 256 : Nat) : Int) from rfl, show (n : Int).tdiv 65536 = ((n / 65536 : Nat) : Int) from rfl, show (n : Int).tdiv 16777216 = ((n / 16777216 : Nat) : Int) from rfl,
    w64 (by omega) (by omega), w64 (by omega) (by omega), w64 (by omega) (by omega), u8_nat, u8_nat, u8_nat, u8_nat]
  rfl
theorem rw_eq {k : Int} {l : List S44} (h : Seg k l) : r07_Write_b1 l k = some (segL l k.toNat, 0) := by
  obtain ⟨n1, n2⟩ := h.num
  obtain ⟨c1, c2, c3, c4, c5⟩ := h.cks
  obtain ⟨f1, f2⟩ := h.foot
  have hk1 := h.k1
  have hk8 := h.k8
  have hle := h.le
  have hlen : (pcs 64 l).length = (l.length + 64 - 1) / 64 := pcs_len
  unfold r07_Write_b1
  have hb : ∀ j, j ≤ (pcs 64 l).length → (pagesL ((pcs 64 l).take j)).length ≤ 6100 * j ∧ ((cksL ((pcs 64 l).take j) 0).flatMap ckB).length ≤ 144 * j := by
    intro j hj
    have hcut : ∀ c ∈ (pcs 64 l).take j, Cut k c := fun c hc => h.cut c (List.mem_of_mem_take hc)
    obtain ⟨p1, p2, p3⟩ := pages_len hk8 hcut
    have hok : ∀ x ∈ cksL ((pcs 64 l).take j) 0, CkOk x ∧ x.f1 < 1099511627776 := fun x hx => by
      obtain ⟨w1, w2, _⟩ := cks_ok hk8 hcut x hx
      rw [List.length_take] at p1
      exact ⟨w1, by omega⟩
    obtain ⟨w1, w2⟩ := foot_len (k := 0) (by omega) hok (by rw [cksL_len, List.length_take]; omega)
    rw [List.length_take] at p1
    refine ⟨by omega, ?_⟩
    have key : ∀ l : List S41, (∀ c ∈ l, CkOk c ∧ c.f1 < 1099511627776) → (l.flatMap ckB).length ≤ 144 * l.length := by
      intro l
      induction l with
      | nil => intro _; simp
      | cons c l ih =>
        intro h
        have := ih fun x hx => h x (List.mem_cons_of_mem _ hx)
        obtain ⟨h1, h2⟩ := h c List.mem_cons_self
        have := h1.len (by omega)
        rw [List.flatMap_cons]
        simp only [List.length_append, List.length_cons]; omega
    have := key _ hok
    rw [cksL_len, List.length_take] at this
    omega
  have hk := loop_to (b := fun s : List Int × List Int × Int × Int => r07_Write_l1 l s.1 s.2.1 s.2.2.1 s.2.2.2) (fun j => (pagesL ((pcs 64 l).take j), (cksL ((pcs 64 l).take j) 0).flatMap ckB, (j : Int), ((64 * j : Nat) : Int)))
    (t := (pagesL (pcs 64 l), (cksL (pcs 64 l) 0).flatMap ckB, (((pcs 64 l).length : Nat) : Int))) (pcs 64 l).length (fun j hj => by
      have hjl : j * 64 < l.length := (pcs_count (by decide)).2 (by rw [← hlen]; exact hj)
      have hx := pcs_get (q := 64) (by decide) hjl
      have hc := h.cut _ (List.mem_of_getElem? hx)
      obtain ⟨b1, b2⟩ := hb j (by omega)
      have hstep : r07_Write_l1 l (pagesL ((pcs 64 l).take j)) ((cksL ((pcs 64 l).take j) 0).flatMap ckB) (j : Int) ((64 * j : Nat) : Int) = r07_Write_j2 (pagesL ((pcs 64 l).take j)) ((cksL ((pcs 64 l).take j) 0).flatMap ckB) (j : Int) ((64 * j : Nat) : Int) ((l.drop (j * 64)).take 64) := by
        unfold r07_Write_l1
        rw [if_pos (by simp only [decide_eq_true_eq]; omega), cut_nat (by omega) (Nat.le_refl _), List.take_length]
        simp only [Option.bind_some]
        rw [show 64 * j = j * 64 by omega]
        by_cases hq : 64 < (l.drop (j * 64)).length
        · rw [if_pos (by simp only [decide_eq_true_eq]; omega)]
          have := cut_nat (xs := l.drop (j * 64)) (l := 0) (u := 64) (by omega) (by omega)
          rw [show ((0 : Nat) : Int) = 0 from rfl, show ((64 : Nat) : Int) = 64 from rfl] at this
          rw [this]
          rfl
        · rw [if_neg (by simp only [decide_eq_true_eq]; omega), List.take_of_length_le (l := l.drop (j * 64)) (i := 64) (by omega)]
      refine hstep.trans ?_
      clear hstep
      generalize (l.drop (j * 64)).take 64 = pc at hx hc ⊢
      rw [r7_piece hk8 hc (by omega) (by omega) (by omega) (by omega), List.take_add_one, hx, Option.toList_some, pagesL_app, cksL_app, List.flatMap_append]
      simp [pagesL, cksL]
      omega) (by
      show r07_Write_l1 l _ _ _ _ = _
      unfold r07_Write_l1
      have : ¬ (pcs 64 l).length < (l.length + 64 - 1) / 64 := by omega
      have := mt (pcs_count (m := l.length) (k := (pcs 64 l).length) (q := 64) (by decide)).1 this
      rw [if_neg (by simp only [decide_eq_true_eq]; omega), List.take_length])
  rw [show (([] : List Int), ([] : List Int), (0 : Int), (0 : Int)) = (pagesL ((pcs 64 l).take 0), (cksL ((pcs 64 l).take 0) 0).flatMap ckB, ((0 : Nat) : Int), ((64 * 0 : Nat) : Int)) by simp [pagesL, cksL], hk]
  simp only [Option.bind_some]
  unfold r07_Write_x1_2 r07_Write_b2
  simp only [lt_]
  rw [show k = ((k.toNat : Nat) : Int) by omega, u64w (by omega) (by omega), rUint_eq _ (by omega)]
  simp only [Option.bind_some]
  rw [u64w (by omega) (by omega), rUint_eq _ (by omega)]
  simp only [Option.bind_some]
  have q0 := uv_length64 (n := k.toNat) (by omega)
  have q1 := uv_length64 (n := (pcs 64 l).length) (by omega)
  have ef : uv k.toNat ++ uv (pcs 64 l).length ++ (cksL (pcs 64 l) 0).flatMap ckB = footL k.toNat (cksL (pcs 64 l) 0) := by unfold footL; rw [cksL_len, List.append_assoc]
  have hpl := pageL_len 102 (footL k.toNat (cksL (pcs 64 l) 0))
  have hpl2 := pageL_len 116 (fourL (pagesL (pcs 64 l)).length)
  rw [fourL_len] at hpl2
  have hb' := (hb (pcs 64 l).length (Nat.le_refl _)).2
  rw [List.take_length] at hb'
  rw [chk_pos (by omega), chk_pos (by simp only [List.length_append]; omega), ef, r04_Lay_eq (by decide) f2 (by omega)]
  simp only [Option.bind_some]
  rw [chk_pos (by omega), bytes_at (by omega), r04_Lay_eq (by decide) (fourL_bs _) (by simp [fourL_len])]
  simp only [Option.bind_some]
  rw [chk_pos (by simp only [List.length_append]; omega)]
  rfl
theorem rWrite_eq {l : List S44} (hg : ∀ e ∈ l, Gd e) (k : Int) (hl : l.length < 4611686018427387904) : r07_Write l k = some (WL k l) := by
  unfold r07_Write WL
  have hj : r07_Write_j1 l k true = some ([], 1) := rfl
  by_cases h0 : l.length = 0
  · rw [if_pos (by simp [h0]), hj, if_pos (.inl h0)]
  rw [if_neg (by simp; intro e; simp [e] at h0)]
  by_cases h1 : k < 1
  · rw [if_pos (by simpa using h1), hj, if_pos (.inr (.inl h1))]
  rw [if_neg (by simpa using h1)]
  by_cases h8 : 8 < k
  · rw [show decide (8 < k) = true by simpa using h8, hj, if_pos (.inr (.inr h8))]
  rw [show decide (8 < k) = false by simpa using h8, if_neg (by rintro (h | h | h); exact h0 h; exact h1 h; exact h8 h)]
  unfold r07_Write_j1
  rw [if_neg (by simp)]
  by_cases hn : 1024 < l.length
  · rw [if_pos (by simp only [decide_eq_true_eq]; omega), if_pos hn]
  rw [if_neg (by simp only [decide_eq_true_eq]; omega), if_neg hn]
  obtain ⟨e0, he0⟩ : ∃ e, l[0]? = some e := ⟨_, List.getElem?_eq_getElem (by omega)⟩
  have hh : (l.head?.map (·.f0) |>.getD 0) = e0.f0 := by rw [List.head?_eq_getElem?, he0]; rfl
  have := rw_loop (k := k) hg he0 (by omega) l.length 0 (by omega) (.inl rfl)
  rw [hh, show (0 : Int) = ((0 : Nat) : Int) from rfl, this, List.drop_zero]
  simp only [Option.bind_some]
  cases hf : flt k e0.f0 l 0 with
  | some c => rfl
  | none =>
    have hr := flt_run hf hg
    have hlast := run_last hr (by omega)
    obtain ⟨x, y, hx, hy, ex, ey, mx, my⟩ := hlast
    have f1 := form_of (hr.fm y my)
    have g1 := hr.gd x mx
    exact rw_eq (l := l) (k := k) ⟨by omega, by omega, by omega, by omega, _, by have := g1.1; omega, by omega, hr⟩
end Go.Proofs.YteodeedejjcmgaaDoor.P
namespace Go.Proofs.YteodeedejjcmgaaDoor.P
open Go Go.RowKit Go.Proofs.YteodeedejjcmgaaDoor.E Go.Proofs.YteodeedejjcmgaaDoor.M
set_option linter.unusedVariables false
set_option linter.unusedSectionVars false
theorem rdU {m : Nat} {most : Int} {r : List Int} (h : m < 18446744073709551616) (hm : (m : Int) ≤ most) (hB : Bs (uv m ++ r)) : column_Reader_Uint ⟨uv m ++ r⟩ most = some (.inl ((m : Int), ⟨r⟩)) := by
  have := Uint_is most hB
  rw [pU_uv h r hm] at this
  exact this
theorem rdI {x : Int} {r : List Int} (h : i64 x) (hB : Bs (uv (zz x) ++ r)) : column_Reader_Int ⟨uv (zz x) ++ r⟩ = some (.inl (x, ⟨r⟩)) := by
  have := Int_is hB
  rw [pI_uv h r] at this
  exact this
theorem rdT {s : List UInt8} {r : List Int} (h : s.length ≤ 32) (hB : Bs (uv s.length ++ (stb s ++ r))) (hl : (uv s.length ++ (stb s ++ r)).length < 9223372036854775808) : column_Reader_Text ⟨uv s.length ++ (stb s ++ r)⟩ 32 = some (.inl (s, ⟨r⟩)) := by
  have := Text_is 32 hB hl
  rw [pT_laid h r] at this
  exact this
theorem foot_step {a0 : S83} {x : Int} {y : Int × S106} {ch : List S41} {c : S41} {r : List Int} {i : Nat} (hc : CkOk c) (hat : c.f1 ≤ (a0.f0.length : Int)) (hP : a0.f0.length ≤ 1000000) (hr : r.length ≤ 1000000)
    (hB : Bs (ckB c ++ r)) (hi : (i : Int) < y.1) (hi' : i ≤ 1024) (hch : ch.length = i) (h0 : i = 0 → c.f1 = 0) (hp : 0 < i → ∃ p, ch[i - 1]? = some p ∧ c.f2 = p.f3 + 1 ∧ p.f1 < c.f1) :
    segment_Segment_foot_l1 a0 x y ch (ckB c ++ r) (i : Int) = some (.inl (ch ++ [c], r, ((i + 1 : Nat) : Int))) := by
  obtain ⟨r0, r1, r2, r4, r6⟩ := hc
  have q2 := uv_length64 (n := c.f2.toNat) (by omega)
  have i4 : i64 c.f4 := by unfold i64; omega
  have i5 : i64 c.f5 := by unfold i64; omega
  have q6 := uv_length64 (n := c.f6.length) (by omega)
  have q7 := uv_length64 (n := c.f7.length) (by omega)
  have l6 : (stb c.f6).length = c.f6.length := by simp [stb]
  have l7 : (stb c.f7).length = c.f7.length := by simp [stb]
  have e : ckB c ++ r = uv c.f0.toNat ++ (uv c.f1.toNat ++ (uv c.f2.toNat ++ (uv c.f3.toNat ++ (uv (zz c.f4) ++ (uv (zz c.f5) ++ (uv c.f6.length ++ (stb c.f6 ++ (uv c.f7.length ++ (stb c.f7 ++ r))))))))) := by simp only [ckB, List.append_assoc]
  rw [e] at hB ⊢
  have b1 := hB.r
  have b2 := b1.r
  have b3 := b2.r
  have b4 := b3.r
  have b5 := b4.r
  have b6 := b5.r
  have b7 := b6.r.r
  unfold segment_Segment_foot_l1
  rw [if_pos (by simpa using hi)]
  simp only [lt_]
  rw [u64w (n := (a0.f0.length : Int)) (by omega) (by omega), rdU (by omega) (by omega) hB]
  simp only [Option.bind_some, s_inl, lt_]
  rw [rdU (by omega) (by omega) b1]
  simp only [Option.bind_some, s_inl, lt_]
  rw [show ((c.f0.toNat : Nat) : Int) = c.f0 by omega, show ((c.f1.toNat : Nat) : Int) = c.f1 by omega, w64 (n := c.f0) (by omega) (by omega), w64 (n := c.f1) (by omega) (by omega)]
  unfold segment_Segment_foot_j2
  rw [rdU (by omega) (by omega) b2]
  simp only [Option.bind_some, s_inl]
  rw [rdU (by omega) (by omega) b3]
  simp only [Option.bind_some, s_inl]
  rw [rdI i4 b4]
  simp only [Option.bind_some, s_inl]
  rw [rdI i5 b5]
  simp only [Option.bind_some, s_inl]
  rw [rdT r6.1 b6 (by simp only [List.length_append]; omega)]
  simp only [Option.bind_some, s_inl]
  rw [rdT r6.2 b7 (by simp only [List.length_append]; omega)]
  simp only [Option.bind_some, s_inl, lt_]
  rw [show ((c.f2.toNat : Nat) : Int) = c.f2 by omega, show ((c.f3.toNat : Nat) : Int) = c.f3 by omega]
  rw [if_pos (by simp only [decide_eq_true_eq]; omega), u64w (n := c.f3 - c.f2) (by omega) (by omega), w64 (n := c.f0 - 1) (by omega) (by omega), u64w (n := c.f0 - 1) (by omega) (by omega), if_pos (by simp only [beq_iff_eq]; omega),
    show decide (c.f2 ≤ c.f3) = true by simp only [decide_eq_true_eq]; omega, Check_t]
  simp only [Option.bind_some, s_inl]
  have hj4 : segment_Segment_foot_j4 ch (i : Int) c.f0 c.f1 (c.f2, ⟨uv c.f3.toNat ++ (uv (zz c.f4) ++ (uv (zz c.f5) ++ (uv c.f6.length ++ (stb c.f6 ++ (uv c.f7.length ++ (stb c.f7 ++ r))))))⟩) (c.f3, ⟨uv (zz c.f4) ++ (uv (zz c.f5) ++ (uv c.f6.length ++ (stb c.f6 ++ (uv c.f7.length ++ (stb c.f7 ++ r)))))⟩)
      (c.f4, ⟨uv (zz c.f5) ++ (uv c.f6.length ++ (stb c.f6 ++ (uv c.f7.length ++ (stb c.f7 ++ r))))⟩) (c.f5, ⟨uv c.f6.length ++ (stb c.f6 ++ (uv c.f7.length ++ (stb c.f7 ++ r)))⟩) (c.f6, ⟨uv c.f7.length ++ (stb c.f7 ++ r)⟩) (c.f7, ⟨r⟩) r = some (.inl (ch ++ [c], r, ((i + 1 : Nat) : Int))) := by
    unfold segment_Segment_foot_j4
    simp only [lt_]
    rw [chk_pos (by simp only [List.length_cons, List.length_nil]; omega), u64w (by omega) (by omega)]
    rfl
  unfold segment_Segment_foot_j3
  by_cases hz : i = 0
  · rw [if_neg (by simp only [decide_eq_true_eq]; omega), h0 hz, show ((0 : Int) == 0) = true from rfl, Check_t]
    simp only [Option.bind_some, s_inl]
    rw [h0 hz] at hj4
    exact hj4
  · obtain ⟨p, hp1, hp2, hp3⟩ := hp (by omega)
    rw [if_pos (by simp only [decide_eq_true_eq]; omega)]
    simp only [lt_]
    rw [u64w (n := (i : Int) - 1) (by omega) (by omega), at_int (n := i - 1) (by omega) hp1]
    simp only [Option.bind_some, lt_]
    rw [u64w (n := p.f3 + 1) (by omega) (by omega), if_pos (by simp only [beq_iff_eq]; exact hp2), show decide (p.f1 < c.f1) = true by simpa using hp3, Check_t]
    simp only [Option.bind_some, s_inl]
    exact hj4
theorem cksL_at : ∀ (cs : List (List S44)) (a i : Nat), (cksL cs a)[i]? = (cs[i]?).map fun c => ckL c ((a + (pagesL (cs.take i)).length : Nat) : Int)
  | [], a, i => by simp [cksL]
  | c :: cs, a, 0 => by simp [cksL, pagesL]
  | c :: cs, a, i + 1 => by
    show (cksL cs (a + (pgL c).length))[i]? = _
    rw [cksL_at cs]
    simp only [List.getElem?_cons_succ, List.take_succ_cons]
    rw [show pagesL (c :: cs.take i) = pgL c ++ pagesL (cs.take i) from rfl, List.length_append, Nat.add_assoc]
section
variable {k : Int} {l : List S44} (h : Seg k l)
include h
theorem Seg.at_ {i : Nat} {x : S41} (hx : (cksL (pcs 64 l) 0)[i]? = some x) : ∃ a : Int, 0 ≤ a ∧ Run k a l ∧ x = ckL ((l.drop (i * 64)).take 64) (((pagesL ((pcs 64 l).take i)).length : Nat) : Int) ∧ i * 64 < l.length ∧ x.f1 = (((pagesL ((pcs 64 l).take i)).length : Nat) : Int) ∧ x.f2 = a + (i * 64 : Nat) ∧ x.f3 = a + (min l.length (i * 64 + 64) : Nat) - 1 ∧ x.f0 = ((min 64 (l.length - i * 64) : Nat) : Int) := by
  obtain ⟨a, ha0, ha1, hr⟩ := h.run
  rw [cksL_at, Nat.zero_add] at hx
  obtain ⟨c, hc, rfl⟩ := Option.map_eq_some_iff.1 hx
  have hlt : i * 64 < l.length := by
    have := (List.getElem?_eq_some_iff.1 hc).1
    rw [pcs_len] at this
    exact (pcs_count (by decide)).2 this
  rw [pcs_get (by decide) hlt] at hc
  cases hc
  have hrc := (hr.drop (i * 64)).take 64
  have hl : ((l.drop (i * 64)).take 64).length = min 64 (l.length - i * 64) := by simp
  obtain ⟨e2, e3⟩ := ck_from hrc (by omega) (((pagesL ((pcs 64 l).take i)).length : Nat) : Int)
  obtain ⟨e0, e1⟩ := ckL_f0 ((l.drop (i * 64)).take 64) (((pagesL ((pcs 64 l).take i)).length : Nat) : Int)
  exact ⟨a, ha0, hr, rfl, hlt, e1, e2, by rw [e3, hl]; omega, by rw [e0, hl]⟩
theorem Seg.page_lt {i j : Nat} (hij : i < j) (hj : j ≤ (pcs 64 l).length) : (pagesL ((pcs 64 l).take i)).length < (pagesL ((pcs 64 l).take j)).length := by
  have e : (pcs 64 l).take j = (pcs 64 l).take i ++ ((pcs 64 l).take j).drop i := by
    have := List.take_append_drop i ((pcs 64 l).take j)
    rw [List.take_take, Nat.min_eq_left (by omega)] at this
    exact this.symm
  rw [e, pagesL_app, List.length_append]
  have hc : ∀ c ∈ ((pcs 64 l).take j).drop i, Cut k c := fun c hc => h.cut c (List.mem_of_mem_take (List.mem_of_mem_drop hc))
  obtain ⟨p1, p2, p3⟩ := pages_len h.k8 hc
  have : ((pcs 64 l).take j).drop i ≠ [] := by
    intro e
    have := congrArg List.length e
    simp at this
    omega
  have := List.length_pos_iff.2 this
  omega
theorem foot_eq : segment_Segment_foot ⟨pagesL (pcs 64 l), 0, []⟩ ⟨footL k.toNat (cksL (pcs 64 l) 0)⟩ = some (.inl (⟨pagesL (pcs 64 l), k, cksL (pcs 64 l) 0⟩, ⟨[]⟩)) := by
  obtain ⟨n1, n2⟩ := h.num
  obtain ⟨c1, c2, c3, c4, c5⟩ := h.cks
  obtain ⟨f1, f2⟩ := h.foot
  have hk1 := h.k1
  have hk8 := h.k8
  have hn := cksL_len (pcs 64 l) 0
  unfold footL at f2 f1 ⊢
  unfold segment_Segment_foot
  rw [rdU (by omega) (by omega) f2]
  simp only [Option.bind_some, s_inl, lt_]
  rw [show ((k.toNat : Nat) : Int) = k by omega, w64 (n := k) (by omega) (by omega), rdU (by omega) (by omega) f2.r]
  simp only [Option.bind_some, s_inl]
  rw [if_pos (by simp only [decide_eq_true_eq]; omega), show decide (0 < (((cksL (pcs 64 l) 0).length : Nat) : Int)) = true by simp only [decide_eq_true_eq]; omega, Check_t]
  simp only [Option.bind_some, s_inl]
  have hB := f2.r.r
  have hfl : ((cksL (pcs 64 l) 0).flatMap ckB).length ≤ 2400 := by simp only [List.length_append] at f1; omega
  have hok : ∀ x ∈ cksL (pcs 64 l) 0, x.f1 ≤ ((pagesL (pcs 64 l)).length : Int) := fun x hx => by
    have := (cks_ok hk8 h.cut x hx).2.1
    omega
  have hat := fun {i x} => h.at_ (i := i) (x := x)
  have hlt := fun {i j} => h.page_lt (i := i) (j := j)
  generalize hY : (((((cksL (pcs 64 l) 0).length : Nat) : Int)), (⟨(cksL (pcs 64 l) 0).flatMap ckB⟩ : S106)) = Y
  have hY1 : Y.1 = (((cksL (pcs 64 l) 0).length : Nat) : Int) := by rw [← hY]
  unfold segment_Segment_foot_j1
  generalize cksL (pcs 64 l) 0 = cks at *
  have hk := loop_to (b := fun s : List S41 × List Int × Int => segment_Segment_foot_l1 ⟨pagesL (pcs 64 l), 0, []⟩ k Y s.1 s.2.1 s.2.2) (fun i => (cks.take i, (cks.drop i).flatMap ckB, (i : Int)))
    (t := .inl (cks, [])) cks.length (fun i hi => by
      have hx := List.getElem?_eq_getElem (l := cks) (i := i) hi
      obtain ⟨a, ha0, ha1, ha2, ha3, ha4, ha5, ha6, ha7⟩ := hat hx
      have hd : cks.drop i = cks[i] :: cks.drop (i + 1) := List.drop_eq_getElem_cons hi
      have hsub : (cks.flatMap ckB) = (cks.take i).flatMap ckB ++ (ckB cks[i] ++ (cks.drop (i + 1)).flatMap ckB) := by
        rw [← List.flatMap_cons, ← hd, ← List.flatMap_append, List.take_append_drop]
      have hfl' := hfl
      rw [hsub] at hB hfl'
      simp only [List.length_append] at hfl'
      have hm := List.getElem_mem hi
      show segment_Segment_foot_l1 _ k Y (cks.take i) ((cks.drop i).flatMap ckB) (i : Int) = _
      rw [hd, List.flatMap_cons]
      rw [foot_step (c1 _ hm).1 (hok _ hm) (by show (pagesL (pcs 64 l)).length ≤ _; omega) (by omega) hB.r (by rw [hY1]; omega) (by omega) (by simp; omega) (fun e => by subst e; rw [ha4]; simp [pagesL]) (fun hpos => by
        have hp := List.getElem?_eq_getElem (l := cks) (i := i - 1) (by omega)
        obtain ⟨b, hb0, hb1, hb2, hb3, hb4, hb5, hb6, hb7⟩ := hat hp
        have hab : a = b := by
          have q1 := ha1.of 0 _ (List.getElem?_eq_getElem (by omega))
          have q2 := hb1.of 0 _ (List.getElem?_eq_getElem (by omega))
          omega
        refine ⟨_, by rw [List.getElem?_take, if_pos (by omega)]; exact hp, by rw [ha5, hb6, hab]; omega, ?_⟩
        rw [ha4, hb4]
        have := hlt (i := i - 1) (j := i) (by omega) (by omega)
        omega), List.take_add_one, hx]
      rfl) (by
      show segment_Segment_foot_l1 _ k Y _ _ ((cks.length : Nat) : Int) = _
      unfold segment_Segment_foot_l1
      rw [if_neg (by simp only [decide_eq_true_eq]; omega), List.take_length, List.drop_length]
      rfl)
  rw [show (([] : List S41), cks.flatMap ckB, (0 : Int)) = (cks.take 0, (cks.drop 0).flatMap ckB, ((0 : Nat) : Int)) by simp, hk]
  rfl
end
end Go.Proofs.YteodeedejjcmgaaDoor.P
namespace Go.Proofs.YteodeedejjcmgaaDoor.P
open Go Go.RowKit Go.Proofs.YteodeedejjcmgaaDoor.E Go.Proofs.YteodeedejjcmgaaDoor.M
set_option linter.unusedVariables false
set_option linter.unusedSectionVars false
theorem ior_i64 {a b : Nat} (ha : a < 4294967296) (hb : b < 4294967296) : ior .i64 (a : Int) (b : Int) = ((a ||| b : Nat) : Int) := by
  unfold ior
  rw [ofInt_nat, ofInt_nat]
  have h : a ||| b < 2 ^ 32 := Nat.or_lt_two_pow (show a < 2 ^ 32 by omega) (show b < 2 ^ 32 by omega)
  simp only [BitVec.toNat_or, BitVec.toNat_ofNat, show IntKind.i64.bits = 64 from rfl]
  rw [Nat.mod_eq_of_lt (show a < 2 ^ 64 by omega), Nat.mod_eq_of_lt (show b < 2 ^ 64 by omega), w64 (by omega) (by omega)]
theorem ishl_i64 {a n : Nat} (hn : n ≤ 24) (ha : a < 256) : ishl .i64 (a : Int) (n : Int) = ((a * 2 ^ n : Nat) : Int) := by
  have h1 : 2 ^ n ≤ 2 ^ 24 := Nat.pow_le_pow_right (by decide) hn
  have h2 : a * 2 ^ n ≤ 255 * 2 ^ 24 := Nat.mul_le_mul (by omega) h1
  unfold ishl
  rw [show min ((n : Int).toNat) IntKind.i64.bits = n from by rw [Int.toNat_natCast, show IntKind.i64.bits = 64 from rfl]; omega, two_pow]
  rw [show (a : Int) * ((2 ^ n : Nat) : Int) = ((a * 2 ^ n : Nat) : Int) from rfl, w64 (by omega) (by omega)]
theorem tail_at {n : Nat} (h : n < 4294967296) : ior .i64 (ior .i64 (ior .i64 ((n % 256 : Nat) : Int) (ishl .i64 ((n / 256 % 256 : Nat) : Int) 8)) (ishl .i64 ((n / 65536 % 256 : Nat) : Int) 16)) (ishl .i64 ((n / 16777216 % 256 : Nat) : Int) 24) = (n : Int) := by
  have e1 := ishl_i64 (a := n / 256 % 256) (n := 8) (by decide) (by omega)
  have e2 := ishl_i64 (a := n / 65536 % 256) (n := 16) (by decide) (by omega)
  have e3 := ishl_i64 (a := n / 16777216 % 256) (n := 24) (by decide) (by omega)
  rw [show ((8 : Nat) : Int) = 8 from rfl] at e1
  rw [show ((16 : Nat) : Int) = 16 from rfl] at e2
  rw [show ((24 : Nat) : Int) = 24 from rfl] at e3
  have p8 : (2 : Nat) ^ 8 = 256 := rfl
  have p16 : (2 : Nat) ^ 16 = 65536 := rfl
  have p24 : (2 : Nat) ^ 24 = 16777216 := rfl
  have o1 : n % 256 ||| n / 256 % 256 * 2 ^ 8 = n % 256 + n / 256 % 256 * 2 ^ 8 := or_top (by omega) _
  rw [e1, e2, e3, ior_i64 (by omega) (by omega), o1]
  have o2 : n % 256 + n / 256 % 256 * 2 ^ 8 ||| n / 65536 % 256 * 2 ^ 16 = n % 256 + n / 256 % 256 * 2 ^ 8 + n / 65536 % 256 * 2 ^ 16 := or_top (by omega) _
  rw [ior_i64 (by omega) (by omega), o2]
  have o3 : n % 256 + n / 256 % 256 * 2 ^ 8 + n / 65536 % 256 * 2 ^ 16 ||| n / 16777216 % 256 * 2 ^ 24 = n % 256 + n / 256 % 256 * 2 ^ 8 + n / 65536 % 256 * 2 ^ 16 + n / 16777216 % 256 * 2 ^ 24 := or_top (by omega) _
  rw [ior_i64 (by omega) (by omega), o3]
  omega
def openL (l : List S44) (k : Int) : S83 := ⟨pagesL (pcs 64 l), k, cksL (pcs 64 l) 0⟩
section
variable {k : Int} {l : List S44} (h : Seg k l)
include h
theorem Seg.bytes : Bs (segL l k.toNat) ∧ (segL l k.toNat).length = (pagesL (pcs 64 l)).length + (footL k.toNat (cksL (pcs 64 l) 0)).length + 22 := by
  obtain ⟨c1, c2, c3, c4, c5⟩ := h.cks
  obtain ⟨f1, f2⟩ := h.foot
  have e1 := pageL_len 102 (footL k.toNat (cksL (pcs 64 l) 0))
  have e2 := pageL_len 116 (fourL (pagesL (pcs 64 l)).length)
  rw [fourL_len] at e2
  unfold segL
  exact ⟨(c5.app (pageL_bs (by decide) f2)).app (pageL_bs (by decide) (fourL_bs _)), by simp only [List.length_append]; omega⟩
theorem Open_eq : segment_Open (segL l k.toNat) = some (some (openL l k), 0) := by
  obtain ⟨c1, c2, c3, c4, c5⟩ := h.cks
  obtain ⟨f1, f2⟩ := h.foot
  obtain ⟨b1, b2⟩ := h.bytes
  have e1 := pageL_len 102 (footL k.toNat (cksL (pcs 64 l) 0))
  have e2 := pageL_len 116 (fourL (pagesL (pcs 64 l)).length)
  rw [fourL_len] at e2
  have r1 := pageR_laid (p := pagesL (pcs 64 l) ++ pageL 102 (footL k.toNat (cksL (pcs 64 l) 0))) (b := fourL (pagesL (pcs 64 l)).length) (q := []) (kind := 116) (by simp [fourL_len])
  have r2 := pageR_laid (p := pagesL (pcs 64 l)) (b := footL k.toNat (cksL (pcs 64 l) 0)) (q := pageL 116 (fourL (pagesL (pcs 64 l)).length)) (kind := 102) (by omega)
  rw [List.append_nil, show pagesL (pcs 64 l) ++ pageL 102 (footL k.toNat (cksL (pcs 64 l) 0)) ++ pageL 116 (fourL (pagesL (pcs 64 l)).length) = segL l k.toNat from rfl] at r1
  rw [show pagesL (pcs 64 l) ++ pageL 102 (footL k.toNat (cksL (pcs 64 l) 0)) ++ pageL 116 (fourL (pagesL (pcs 64 l)).length) = segL l k.toNat from rfl] at r2
  have hft := foot_eq h
  have htk : (segL l k.toNat).take (pagesL (pcs 64 l)).length = pagesL (pcs 64 l) := by unfold segL; rw [List.append_assoc, List.take_left' rfl]
  unfold openL
  rw [List.length_append] at r1
  generalize segL l k.toNat = B at *
  generalize footL k.toNat (cksL (pcs 64 l) 0) = Ft at *
  generalize cksL (pcs 64 l) 0 = cks at *
  generalize pagesL (pcs 64 l) = Pg at *
  unfold segment_Open
  rw [if_neg (by simp only [decide_eq_true_eq]; omega)]
  simp only [lt_]
  rw [w64 (n := (B.length : Int) - 13) (by omega) (by omega), show (B.length : Int) - 13 = ((Pg.length + (pageL 102 Ft).length : Nat) : Int) by omega, page_Read_eq b1 (by omega), r1]
  simp only [Option.bind_some]
  rw [if_neg (by simp), if_neg (by simp), if_neg (by rw [fourL_len]; simp)]
  unfold segment_Open_j1
  rw [if_neg (by simp only [bne_iff_ne, ne_eq, Decidable.not_not]; omega)]
  simp only [show at_ (fourL Pg.length) 0 = some ((Pg.length % 256 : Nat) : Int) from rfl, show at_ (fourL Pg.length) 1 = some ((Pg.length / 256 % 256 : Nat) : Int) from rfl, show at_ (fourL Pg.length) 2 = some ((Pg.length / 65536 % 256 : Nat) : Int) from rfl, show at_ (fourL Pg.length) 3 = some ((Pg.length / 16777216 % 256 : Nat) : Int) from rfl, Option.bind_some, lt_]
  rw [w64 (n := ((Pg.length % 256 : Nat) : Int)) (by omega) (by omega), w64 (n := ((Pg.length / 256 % 256 : Nat) : Int)) (by omega) (by omega), w64 (n := ((Pg.length / 65536 % 256 : Nat) : Int)) (by omega) (by omega), w64 (n := ((Pg.length / 16777216 % 256 : Nat) : Int)) (by omega) (by omega), tail_at (by omega)]
  rw [w64 (n := (B.length : Int) - 13) (by omega) (by omega), if_neg (by simp only [decide_eq_true_eq]; omega), page_Read_eq b1 (by omega), r2]
  simp only [Option.bind_some]
  have hcut := cut_nat (xs := B) (l := 0) (u := Pg.length) (by omega) (by omega)
  rw [htk, List.drop_zero, show ((0 : Nat) : Int) = 0 from rfl] at hcut
  rw [if_neg (by simp), hcut]
  simp only [Option.bind_some]
  rw [clone_bytes (by omega)]
  simp only [Option.bind_some]
  rw [if_neg (by simp), if_neg (by simp only [bne_iff_ne, ne_eq, Decidable.not_not]; omega)]
  unfold Try_segment_Segment_foot
  rw [hft]
  rfl
theorem Chunks_eq : segment_Segment_Chunks (some (openL l k)) = some (cksL (pcs 64 l) 0) := by
  obtain ⟨c1, c2, c3, c4, c5⟩ := h.cks
  have hn := cksL_len (pcs 64 l) 0
  have := h.num
  unfold segment_Segment_Chunks openL
  simp only
  unfold slices_Clone_segment_Chunk_segment_Chunk
  have hne : (cksL (pcs 64 l) 0).isEmpty = false := by
    cases hc : cksL (pcs 64 l) 0 with
    | nil => rw [hc] at hn; simp at hn; omega
    | cons _ _ => rfl
  rw [hne]
  show (chk _ _).bind _ = _
  rw [chk_pos (by simp; omega)]
  rfl
theorem WL_eq : WL k l = (segL l k.toNat, 0) := by
  obtain ⟨a, ha0, ha1, hr⟩ := h.run
  have h1 := h.k1
  have h2 := h.k8
  have h3 := h.ps
  have h4 := h.le
  unfold WL
  rw [if_neg (by omega), if_neg (by omega)]
  have hx := List.getElem?_eq_getElem (l := l) (i := 0) (by omega)
  have e : (l.head?.map (·.f0) |>.getD 0) = a := by
    rw [List.head?_eq_getElem?, hx]
    have := hr.of 0 _ hx
    simp at this ⊢
    exact this
  rw [e, flt_none (by simpa using hr)]
end
def wakeL (n : Nat) : List S44 := (List.range n).map fun i : Nat => ⟨(i : Int), 0, (i : Int), [], 0⟩
theorem wakeL_at {n i : Nat} {x : S44} (h : (wakeL n)[i]? = some x) : x = ⟨(i : Int), 0, (i : Int), [], 0⟩ ∧ i < n := by
  unfold wakeL at h
  rw [List.getElem?_map] at h
  obtain ⟨j, hj, rfl⟩ := Option.map_eq_some_iff.1 h
  obtain ⟨hlt, rfl⟩ := List.getElem?_eq_some_iff.1 hj
  rw [List.getElem_range]
  exact ⟨rfl, by simpa using hlt⟩
theorem wake_seg : Seg 1 (wakeL 130) := by
  have hm : ∀ e ∈ wakeL 130, ∃ i : Nat, i < 130 ∧ e = ⟨(i : Int), 0, (i : Int), [], 0⟩ := fun e he => by
    obtain ⟨i, hi⟩ := List.getElem?_of_mem he
    obtain ⟨q1, q2⟩ := wakeL_at hi
    exact ⟨i, q2, q1⟩
  refine ⟨by decide, by decide, by simp [wakeL], by simp [wakeL], 0, by decide, by simp [wakeL], fun e he => ?_, fun e he => ?_, fun i x hx => ?_⟩
  · obtain ⟨i, hi, rfl⟩ := hm e he
    unfold formB
    simp
    omega
  · obtain ⟨i, hi, rfl⟩ := hm e he
    exact ⟨⟨by show (0 : Int) ≤ (i : Int); omega, by show (i : Int) < _; omega⟩, by show 0 < _; decide⟩
  · obtain ⟨rfl, _⟩ := wakeL_at hx
    show (i : Int) = 0 + i
    omega
theorem awake7_eq : law07_awake = some true := by
  have hk := loop_to (b := fun s : List S44 × Int => law07_awake_l1 s.1 s.2) (fun i => (wakeL i, (i : Int))) (t := wakeL 130) 130 (fun i hi => by
    show law07_awake_l1 (wakeL i) (i : Int) = _
    unfold law07_awake_l1
    rw [if_pos (by simp only [decide_eq_true_eq]; omega)]
    simp only [lt_]
    rw [u64w (n := (i : Int)) (by omega) (by omega), chk_pos (by simp [wakeL]; omega), w64 (by omega) (by omega)]
    unfold wakeL
    rw [List.range_succ, List.map_append]
    rfl) (by
    show law07_awake_l1 (wakeL 130) ((130 : Nat) : Int) = _
    unfold law07_awake_l1
    rw [if_neg (by decide)])
  have h := wake_seg
  have hg : ∀ e ∈ wakeL 130, Gd e := by obtain ⟨a, _, _, hr⟩ := h.run; exact hr.gd
  unfold law07_awake
  rw [show (([] : List S44), (0 : Int)) = (wakeL 0, ((0 : Nat) : Int)) from rfl, hk]
  simp only [Option.bind_some]
  unfold law07_awake_x1_0 law07_awake_b1
  rw [Write_eq hg 1 (by simp [wakeL]), WL_eq h]
  simp only [Option.bind_some]
  rw [Open_eq h]
  simp only [Option.bind_some]
  rw [if_neg (by simp)]
  unfold law07_awake_j1
  rw [if_neg (by simp)]
  simp only
  rw [Chunks_eq h]
  simp only [Option.bind_some]
  have hl : (wakeL 130).length = 130 := by simp [wakeL]
  have hn : (cksL (pcs 64 (wakeL 130)) 0).length = 3 := by rw [cksL_len, pcs_len, hl]
  rw [if_pos (by rw [hn]; rfl)]
  have h0 := List.getElem?_eq_getElem (l := cksL (pcs 64 (wakeL 130)) 0) (i := 0) (by omega)
  have h2 := List.getElem?_eq_getElem (l := cksL (pcs 64 (wakeL 130)) 0) (i := 2) (by omega)
  obtain ⟨_, _, _, _, _, _, _, _, e0⟩ := h.at_ h0
  obtain ⟨_, _, _, _, _, _, _, _, e2⟩ := h.at_ h2
  rw [hl] at e0 e2
  rw [show at_ (cksL (pcs 64 (wakeL 130)) 0) 0 = _ from at_int (n := 0) rfl h0]
  simp only [Option.bind_some]
  rw [if_pos (by rw [e0]; rfl), show at_ (cksL (pcs 64 (wakeL 130)) 0) 2 = _ from at_int (n := 2) rfl h2]
  simp only [Option.bind_some]
  rw [if_pos (by rw [e2]; rfl)]
theorem SegmentWrites (a0 : List S44) (a1 : Int) (h0 : gL 48 g44 a0) (h1 : gI .i64 a1) : law07_SegmentWrites a0 a1 = some true := by
  have hlen : a0.length < 4611686018427387904 := by have := h0.1; unfold reachBytes at this; omega
  have hg := gd_of h0
  unfold law07_SegmentWrites
  have hj : law07_SegmentWrites_j1 a0 a1 true = some true := by
    unfold law07_SegmentWrites_j1; rw [if_pos rfl, awake7_eq]; rfl
  rw [awake7_eq]
  simp only [Option.bind_some]
  rw [if_neg (by simp)]
  by_cases hl : 200 < a0.length
  · rw [show decide (200 < (a0.length : Int)) = true by simp only [decide_eq_true_eq]; omega, hj]
  rw [show decide (200 < (a0.length : Int)) = false by simp only [decide_eq_false_iff_not]; omega]
  unfold law07_SegmentWrites_j1
  rw [if_neg (by simp), Write_eq hg a1 hlen, rWrite_eq hg a1 hlen]
  simp
end Go.Proofs.YteodeedejjcmgaaDoor.P
