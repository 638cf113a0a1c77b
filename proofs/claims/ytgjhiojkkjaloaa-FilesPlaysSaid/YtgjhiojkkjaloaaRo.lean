/- The document's store, its power off and on; a bit that is turned in both. -/
import Derived.Test.YtgjhiojkkjaloaaRn
import Derived.Test.YtgjhiojkkjaloaaDk
namespace Go.Proofs.Ytgjhiojkkjaloaa.P
open Go Go.RowKit Go.Proofs.Ytgjhiojkkjaloaa.E Go.Proofs.Ytgjhiojkkjaloaa.M
set_option linter.unusedVariables false

theorem bts_take (p : List Int) (n : Nat) : (bts p).take n = bts (p.take n) := by simp [bts, List.map_take]
theorem bts_drop (p : List Int) (n : Nat) : (bts p).drop n = bts (p.drop n) := by simp [bts, List.map_drop]
theorem cv_cut {x : S73} (hx : 0 ≤ x.f2 ∧ x.f2 ≤ x.f1.length) (n : Int) {m : Nat} (hm : (m : Int) = if n < 0 ∨ ((cv x).f2.length : Int) < n then ((cv x).f2.length : Int) else n) :
    cv (cutF x n) = ⟨x.f0, (cv x).f1 ++ (cv x).f2.take m, []⟩ := by
  have hl : ((cv x).f2.length : Int) = x.f1.length - x.f2 := by unfold cv; simp only [bts_len, List.length_drop]; omega
  rw [hl] at hm
  unfold cutF
  split
  · rename_i h
    rw [if_neg (by omega)] at hm
    have e : (x.f2 + n).toNat = x.f2.toNat + m := by omega
    unfold cv
    simp only
    rw [e, bts_take, ← bts_append, List.take_take, Nat.min_self, List.drop_of_length_le (by rw [List.length_take]; omega), List.take_add]
    rfl
  · rename_i h
    have e : m = (cv x).f2.length := by
      split at hm
      · omega
      · omega
    rw [cv_full, e, List.take_length]
section
variable {k : Nat} {s : S68} {n : List UInt8}
theorem mix_at {α : Type} {a b : List α} {i : Nat} {x : α} (hl : a.length = b.length) (hx : b[i]? = some x) : (a.take i ++ b.drop i)[i]? = some x := by
  have hi := (List.getElem?_eq_some_iff.1 hx).1
  have hlt : (a.take i).length = i := by rw [List.length_take]; omega
  rw [List.getElem?_append_right (by omega), hlt, Nat.sub_self, List.getElem?_drop, Nat.add_zero, hx]
theorem mix_set {α : Type} {a b : List α} {i : Nat} {y : α} (hl : a.length = b.length) (hy : a[i]? = some y) : (a.take i ++ b.drop i).set i y = a.take (i + 1) ++ b.drop (i + 1) := by
  have hi := (List.getElem?_eq_some_iff.1 hy).1
  have hlt : (a.take i).length = i := by rw [List.length_take]; omega
  rw [List.set_append_right _ _ (by omega), hlt, Nat.sub_self, List.drop_eq_getElem_cons (show i < b.length by omega), List.set_cons_zero, List.take_add_one, hy]
  simp
theorem rrst_round (h : SI k s) (keep : List Int) {i : Nat} (hi : i < s.f0.length) :
    r05_Store_Restart_l1 keep (((keepL keep s.f0).map cv).take i ++ (s.f0.map cv).drop i) (i : Int) = some (.inl (((keepL keep s.f0).map cv).take (i + 1) ++ (s.f0.map cv).drop (i + 1), ((i + 1 : Nat) : Int))) := by
  have hx := List.getElem?_eq_getElem hi
  have hm : s.f0[i] ∈ s.f0 := List.getElem_mem hi
  generalize s.f0[i] = x at hx hm
  have hll : ((keepL keep s.f0).map cv).length = (s.f0.map cv).length := by simp [keepL_len]
  have ha := mix_at hll (show (s.f0.map cv)[i]? = some (cv x) by rw [List.getElem?_map, hx]; rfl)
  have hset := mix_set hll (show ((keepL keep s.f0).map cv)[i]? = some (cv (cutF x (keep.getD i 0))) by rw [List.getElem?_map, keepL_get, hx]; rfl)
  have hone := h.one hm
  have hsu := h.sure x hm
  have hlen := h.len
  have hcl := cv_len x
  have hLl : (((keepL keep s.f0).map cv).take i ++ (s.f0.map cv).drop i).length = s.f0.length := by simp [keepL_len]; omega
  generalize hL : ((keepL keep s.f0).map cv).take i ++ (s.f0.map cv).drop i = L at ha hset hLl
  have tail : ∀ (n : Int), n = keep.getD i 0 → r05_Store_Restart_j1 L (i : Int) n = some (.inl (((keepL keep s.f0).map cv).take (i + 1) ++ (s.f0.map cv).drop (i + 1), ((i + 1 : Nat) : Int))) := by
    intro n hn
    rw [← hn] at hset
    have j2 : ∀ (m : Nat), m ≤ (cv x).f2.length → ((m : Int) = if n < 0 ∨ ((cv x).f2.length : Int) < n then ((cv x).f2.length : Int) else n) → r05_Store_Restart_j2 L (i : Int) (m : Int) = some (.inl (((keepL keep s.f0).map cv).take (i + 1) ++ (s.f0.map cv).drop (i + 1), ((i + 1 : Nat) : Int))) := by
      intro m hmle hme
      unfold r05_Store_Restart_j2
      rw [at_int rfl ha]
      simp only [Option.bind_some]
      have hct := cut_nat (xs := (cv x).f2) (l := 0) (u := m) (by omega) hmle
      rw [show ((0 : Nat) : Int) = 0 from rfl, List.drop_zero] at hct
      rw [hct]
      simp only [Option.bind_some, Int.toNat_natCast]
      rw [chk_pos (by simp only [maxLen, List.length_take]; omega), at_int rfl (List.getElem?_set_self (by omega))]
      simp only [Option.bind_some]
      rw [lt_, w64 (by omega) (by omega), List.set_set, ← hset, cv_cut hsu n hme]
      rfl
    have j3t : (n < 0 ∨ ((cv x).f2.length : Int) < n) → r05_Store_Restart_j3 L (i : Int) n true = some (.inl (((keepL keep s.f0).map cv).take (i + 1) ++ (s.f0.map cv).drop (i + 1), ((i + 1 : Nat) : Int))) := by
      intro hc
      unfold r05_Store_Restart_j3
      rw [if_pos rfl, at_int rfl ha]
      simp only [Option.bind_some]
      exact j2 _ (Nat.le_refl _) (by rw [if_pos hc])
    unfold r05_Store_Restart_j1
    by_cases c : n < 0
    · rw [if_pos (by simpa using c)]
      exact j3t (.inl c)
    · rw [if_neg (by simpa using c), at_int rfl ha]
      simp only [Option.bind_some]
      by_cases c2 : ((cv x).f2.length : Int) < n
      · rw [decide_eq_true c2]
        exact j3t (.inr c2)
      · rw [decide_eq_false c2]
        unfold r05_Store_Restart_j3
        rw [if_neg (by simp)]
        have hq := j2 n.toNat (by omega) (by rw [if_neg (by omega)]; omega)
        rw [Int.toNat_of_nonneg (by omega)] at hq
        exact hq
  unfold r05_Store_Restart_l1
  rw [if_pos (by rw [hLl]; simpa using hi)]
  by_cases ck : i < keep.length
  · have hk := List.getElem?_eq_getElem ck
    rw [if_pos (by simpa using ck), at_int rfl hk]
    simp only [Option.bind_some]
    exact tail _ (by rw [List.getD_eq_getElem?_getD, hk]; rfl)
  · rw [if_neg (by simpa using ck)]
    exact tail _ (by rw [List.getD_eq_getElem?_getD, List.getElem?_eq_none (by omega)]; rfl)
theorem rrst_loop (h : SI k s) (keep : List Int) : ∀ (m i : Nat), i + m = s.f0.length → loop (fun q : List S62 × Int => r05_Store_Restart_l1 keep q.1 q.2) (((keepL keep s.f0).map cv).take i ++ (s.f0.map cv).drop i, (i : Int)) = some ((keepL keep s.f0).map cv)
  | 0, i, hi => by
    refine loop_end ?_
    show r05_Store_Restart_l1 keep _ (i : Int) = _
    unfold r05_Store_Restart_l1
    rw [if_neg (by simp [keepL_len]; omega), List.take_of_length_le (by simp [keepL_len]; omega), List.drop_of_length_le (by simp; omega), List.append_nil]
  | m + 1, i, hi => by
    rw [loop_nxt (b := fun q : List S62 × Int => r05_Store_Restart_l1 keep q.1 q.2) (rrst_round h keep (show i < s.f0.length by omega))]
    exact rrst_loop h keep m (i + 1) (by omega)
theorem SI.rRestart (h : SI k s) (keep : List Int) : r05_Store_Restart (cvS s) keep = some (cvS (rstS s keep)) := by
  unfold r05_Store_Restart
  have hl := rrst_loop h keep s.f0.length 0 (by omega)
  rw [List.take_zero, List.drop_zero, List.nil_append] at hl
  rw [show (cvS s).f0 = s.f0.map cv from rfl, show ((0 : Int)) = ((0 : Nat) : Int) from rfl, hl]
  rfl

/-! a bit turned -/
theorem stb_bts {l : List Int} (h : ∀ b ∈ l, 0 ≤ b ∧ b < 256) : stb (bts l) = l := by
  induction l with
  | nil => rfl
  | cons b l ih =>
    have hb := h b (List.mem_cons_self ..)
    show ((UInt8.ofNat b.toNat).toNat : Int) :: stb (bts l) = _
    rw [ih fun x hx => h x (List.mem_cons_of_mem _ hx)]
    congr 1
    rw [UInt8.toNat_ofNat']
    omega
theorem flip_len (p : List Int) (bit : Int) : (flip p bit).length = p.length := by simp [flip]
theorem flip_byt {p : List Int} (h : ∀ b ∈ p, 0 ≤ b ∧ b < 256) (bit : Int) : ∀ b ∈ flip p bit, 0 ≤ b ∧ b < 256 := by
  intro b hb
  unfold flip at hb
  rcases List.mem_or_eq_of_mem_set hb with hb | hb
  · exact h b hb
  · subst hb
    unfold ixor
    rw [u8_nat]
    omega
theorem SI.spo (h : SI k s) (bit : Int) : SI k (spoS s n bit).2 := by
  unfold spoS
  cases hg : get s.f0 n with
  | none => exact h
  | some x =>
    simp only
    split
    · exact h
    · obtain ⟨hm, hn⟩ := get_mem hg
      have hl := len_put h.rise ⟨x.f0, flip x.f1 bit, x.f2⟩
      have hu := used_put h.rise ⟨x.f0, flip x.f1 bit, x.f2⟩
      subst hn
      simp only at hl hu
      rw [hg] at hl hu
      simp only [Option.isSome_some, if_true, Option.getD_some, flip_len] at hl hu
      have h1 := h.len; have h2 := h.use
      refine ⟨put_rise h.rise _, fun y hy => ?_, by show (put s.f0 _).length ≤ 500; omega, h.room, by show (used (put s.f0 _) : Int) ≤ s.f1; omega, fun y hy => ?_, fun y hy => ?_, h.armed, h.ops⟩
      all_goals rcases put_mem hy with rfl | hy
      · exact h.form x hm
      · exact h.form y hy
      · simp only [flip_len]; exact h.sure x hm
      · exact h.sure y hy
      · exact flip_byt (h.byt x hm) bit
      · exact h.byt y hy
theorem spoil_eq (h : SI k s) (n : List UInt8) (bit : Int) (hb : -9223372036854775808 ≤ bit ∧ bit ≤ 9223372036854775807) : law05_spoil (some s) (cvS s) n bit = some (true, some (spoS s n bit).2, cvS (spoS s n bit).2) := by
  show (loop (fun q : Int × Int => law05_spoil_l2 (cvS s) n q.1 q.2) (-1, 0)).bind _ = _
  have hr := h.rise
  have hlen := h.len
  have hml : (cvS s).f0.length = s.f0.length := List.length_map ..
  have step_ : ∀ (a : Int) (i : Nat) (y : S73), s.f0[i]? = some y → law05_spoil_l2 (cvS s) n a (i : Int) = some (.inl (if y.f0 = n then (i : Int) else a, ((i + 1 : Nat) : Int))) := by
    intro a i y hy
    have hi := (List.getElem?_eq_some_iff.1 hy).1
    have b4 : ∀ a : Int, law05_spoil_b4 (i : Int) a = some (.inl (a, ((i + 1 : Nat) : Int))) := by
      intro a
      unfold law05_spoil_b4
      rw [lt_, w64 (by omega) (by omega)]
      rfl
    unfold law05_spoil_l2
    rw [if_pos (by rw [hml]; simpa using hi), at_int rfl (show (cvS s).f0[i]? = some (cv y) by show (s.f0.map cv)[i]? = _; rw [List.getElem?_map, hy]; rfl)]
    simp only [Option.bind_some]
    by_cases c : y.f0 = n
    · rw [if_pos (by show (y.f0 == n) = true; simpa using c), b4, if_pos c]
    · rw [if_neg (by show ¬ (y.f0 == n) = true; simpa using c), b4, if_neg c]
  have end_ : ∀ a : Int, law05_spoil_l2 (cvS s) n a (s.f0.length : Int) = some (.inr a) := by
    intro a
    unfold law05_spoil_l2
    rw [if_neg (by rw [hml]; simp)]
  rcases place hr n with ⟨P, x, D, e, hx⟩ | ⟨P, D, e, hP, hD⟩
  · have hx0 : s.f0[P.length]? = some x := by rw [e]; simp
    have hPl : P.length < s.f0.length := (List.getElem?_eq_some_iff.1 hx0).1
    have hl := loop_to (b := fun q : Int × Int => law05_spoil_l2 (cvS s) n q.1 q.2) (f := fun i : Nat => (if P.length < i then (P.length : Int) else -1, (i : Int))) (t := (P.length : Int)) s.f0.length (fun i hi => by
      have hy := List.getElem?_eq_getElem hi
      show law05_spoil_l2 (cvS s) n _ (i : Int) = _
      rw [step_ _ i _ hy]
      congr 3
      by_cases c : i = P.length
      · subst c
        rw [hx0] at hy
        cases hy
        rw [if_pos hx, if_pos (by omega)]
      · have hne : s.f0[i].f0 ≠ n := by
          intro hq
          have hm1 := List.pairwise_iff_getElem.1 hr
          have hxx : s.f0[P.length] = x := (List.getElem?_eq_some_iff.1 hx0).2
          rcases Nat.lt_or_gt_of_ne c with q | q
          · have := hm1 i P.length hi hPl q
            rw [hxx, hx, hq] at this
            rw [bl_irr] at this; cases this
          · have := hm1 P.length i hPl hi q
            rw [hxx, hx, hq] at this
            rw [bl_irr] at this; cases this
        rw [if_neg hne]
        by_cases c2 : P.length < i
        · rw [if_pos c2, if_pos (by omega)]
        · rw [if_neg c2, if_neg (by omega)]) (by
      show law05_spoil_l2 (cvS s) n (if P.length < s.f0.length then (P.length : Int) else -1) (s.f0.length : Int) = _
      rw [end_, if_pos hPl])
    rw [if_neg (by omega), show ((0 : Nat) : Int) = 0 from rfl] at hl
    rw [hl]
    have hxm : x ∈ s.f0 := List.mem_of_getElem? hx0
    have hone := h.one hxm
    have hsu := h.sure x hxm
    have hcl := cv_len x
    rw [e] at hr
    have e3 : get s.f0 n = some x := by rw [e]; exact get_mid hx hr
    show law05_spoil_b3 (cvS s) n bit s (P.length : Int) = _
    unfold law05_spoil_b3
    rw [h.Spoil]
    have hm : (cvS s).f0 = P.map cv ++ cv x :: D.map cv := by show s.f0.map cv = _; rw [e]; simp
    have hy : (cvS s).f0[P.length]? = some (cv x) := by rw [hm]; simp
    have hstb : stb ((cv x).f1 ++ (cv x).f2) = x.f1 := by rw [cv_all, stb_bts (h.byt x hxm)]
    simp only [Option.bind_some]
    rw [if_neg (by simp only [decide_eq_true_eq]; omega), at_int rfl hy]
    simp only [Option.bind_some]
    rw [chk_pos (by simp only [maxLen]; omega), chk_pos (by rw [List.length_append]; simp only [maxLen]; omega), hstb]
    have jt : ∀ (q : Int × Option S68) (o : S68) (b : Bool), b = true → law05_spoil_j2 (cvS s) bit (P.length : Int) q o (cv x) b = some (q.1 == 1, some o, cvS s) := by intro q o b hb; subst hb; rfl
    by_cases cE : bit < 0 ∨ 8 * (x.f1.length : Int) ≤ bit
    · have es : spoS s n bit = (1, s) := by unfold spoS; rw [e3]; simp only [if_pos cE]
      rw [es]
      by_cases c1 : bit < 0
      · rw [if_pos (by simpa using c1), jt _ _ _ rfl]
        rfl
      · rw [if_neg (by simpa using c1), lt_, Int.tdiv_eq_ediv_of_nonneg (by omega), w64 (by omega) (by omega), jt _ _ _ (by simp only [decide_eq_true_eq]; omega)]
        rfl
    · have es : spoS s n bit = (0, { s with f0 := P ++ ⟨x.f0, flip x.f1 bit, x.f2⟩ :: D }) := by
        unfold spoS
        rw [e3]
        simp only [if_neg cE]
        rw [e, put_mid (x := x) (y := ⟨x.f0, flip x.f1 bit, x.f2⟩) rfl hr]
      rw [es]
      rw [if_neg (by simp only [decide_eq_true_eq]; omega), lt_, Int.tdiv_eq_ediv_of_nonneg (by omega), w64 (by omega) (by omega)]
      unfold law05_spoil_j2
      rw [if_neg (by simp only [decide_eq_true_eq]; omega), hstb, Int.tdiv_eq_ediv_of_nonneg (by omega), lt_, w64 (by omega) (by omega)]
      have hg := List.getElem?_eq_getElem (l := x.f1) (i := (bit / 8).toNat) (by omega)
      rw [at_int (n := (bit / 8).toNat) (by omega) hg]
      simp only [Option.bind_some]
      have hmod : bit.tmod 8 = bit % 8 := Int.tmod_eq_emod_of_nonneg (by omega)
      rw [hmod, chk_pos (by omega), lt_, lt_]
      have hfl : x.f1.set (bit / 8).toNat (ixor .u8 x.f1[(bit / 8).toNat] (ishl .u8 1 (bit % 8))) = flip x.f1 bit := by
        unfold flip
        rw [show x.f1.getD (bit / 8).toNat 0 = x.f1[(bit / 8).toNat] by rw [List.getD_eq_getElem?_getD, hg]; rfl]
      rw [hfl]
      have hsl : (cv x).f1.length = x.f2.toNat := by unfold cv; simp only [bts_len, List.length_take]; omega
      have hct := cut_nat (xs := flip x.f1 bit) (l := 0) (u := x.f2.toNat) (by omega) (by rw [flip_len]; omega)
      rw [show ((0 : Nat) : Int) = 0 from rfl, List.drop_zero] at hct
      have hct2 := cut_nat (xs := flip x.f1 bit) (l := x.f2.toNat) (u := (flip x.f1 bit).length) (by rw [flip_len]; omega) (Nat.le_refl _)
      rw [List.take_length] at hct2
      rw [hsl, hct]
      simp only [Option.bind_some]
      rw [at_int rfl hy]
      simp only [Option.bind_some]
      rw [hct2]
      simp only [Option.bind_some, Int.toNat_natCast]
      rw [at_int rfl (List.getElem?_set_self (by rw [hml]; exact hPl))]
      simp only [Option.bind_some]
      rw [List.set_set]
      refine congrArg some (Prod.ext rfl (Prod.ext rfl ?_))
      show (⟨(cvS s).f0.set P.length _, s.f1, s.f2, s.f3, s.f4⟩ : S53) = ⟨(P ++ ⟨x.f0, flip x.f1 bit, x.f2⟩ :: D).map cv, s.f1, s.f2, s.f3, s.f4⟩
      congr 1
      rw [hm, List.set_append_right _ _ (by simp)]
      simp
      rfl
  · have hl := loop_to (b := fun q : Int × Int => law05_spoil_l2 (cvS s) n q.1 q.2) (f := fun i : Nat => (-1, (i : Int))) (t := -1) s.f0.length (fun i hi => by
      have hy := List.getElem?_eq_getElem hi
      show law05_spoil_l2 (cvS s) n (-1) (i : Int) = _
      rw [step_ _ i _ hy]
      have hmm : s.f0[i] ∈ s.f0 := List.getElem_mem hi
      rw [if_neg]
      intro hq
      have : s.f0[i] ∈ P ++ D := by rw [← e]; exact hmm
      rcases List.mem_append.1 this with q | q
      · exact bl_ne (hP _ q) hq
      · exact bl_ne (hD _ q) hq.symm) (end_ _)
    rw [show ((0 : Nat) : Int) = 0 from rfl] at hl
    rw [hl]
    rw [e] at hr
    have e3 : get s.f0 n = none := by rw [e]; exact get_gap hP hD
    show law05_spoil_b3 (cvS s) n bit s (-1) = _
    unfold law05_spoil_b3
    have es : spoS s n bit = (5, s) := by unfold spoS; rw [e3]
    rw [h.Spoil, es]
    simp only [Option.bind_some]
    rw [if_pos (by decide)]
    rfl
end
end Go.Proofs.Ytgjhiojkkjaloaa.P
