/- Texts and numbers, as the document reads them; the law ColumnReads. -/
import Derived.Test.YthokgnonmcgkcaaQo
namespace Go.Proofs.Ythokgnonmcgkcaa.P
open Go Go.RowKit Go.Proofs.Ythokgnonmcgkcaa.E Go.Proofs.Ythokgnonmcgkcaa.M
set_option linter.unusedVariables false

theorem rdict_loop {B : List Int} (hBs : Bs B) (hB : B.length < 1099511627776) (Y : Int × S26) (n : Nat) (hY : Y.1 = (n : Int)) (hn : n ≤ 4096) : ∀ (m k q : Nat) (acc : List (List UInt8)), k + m = n → acc.length = k → q ≤ B.length →
    ∃ t, loop (fun s : List Int × Int × List (List UInt8) × Int => r03_ReadTexts_l3 Y s.1 s.2.1 s.2.2.1 s.2.2.2) (B, (q : Int), acc, (k : Int)) = some t ∧ match pDict acc m (B.drop q) with
      | some (l, r) => ∃ q' : Nat, t = .inl (B, (q' : Int), l) ∧ q' ≤ B.length ∧ B.drop q' = r
      | none => t = .inr ([], false) ∨ ∃ a, t = .inl (B, -1, a)
  | 0, k, q, acc, hk, ha, hq => by
    refine ⟨.inl (B, (q : Int), acc), loop_end ?_, q, rfl, hq, rfl⟩
    show r03_ReadTexts_l3 Y B (q : Int) acc (k : Int) = _
    unfold r03_ReadTexts_l3
    rw [hY, if_neg (by simp only [decide_eq_true_eq]; omega)]
    rfl
  | m + 1, k, q, acc, hk, ha, hq => by
    have hl3 : ∀ (t : List UInt8) (z : S26), r03_Reader_Text ⟨B, (q : Int)⟩ 32 = some (t, z) → r03_ReadTexts_l3 Y B (q : Int) acc (k : Int) = if rises acc t = true then some (.inl (z.f0, z.f1, acc ++ [t], ((k + 1 : Nat) : Int))) else some (.inr (.inr ([], false))) := by
      intro t z ht
      unfold r03_ReadTexts_l3 r03_ReadTexts_j2
      rw [hY, if_pos (by simp only [decide_eq_true_eq]; omega), if_pos (by simp only [decide_eq_true_eq]; omega), ht]
      simp only [Option.bind_some, lt_]
      have hj : r03_ReadTexts_j3 acc (k : Int) (t, z) (!rises acc t) = if rises acc t = true then some (.inl (z.f0, z.f1, acc ++ [t], ((k + 1 : Nat) : Int))) else some (.inr (.inr ([], false))) := by
        unfold r03_ReadTexts_j3
        cases rises acc t with
        | true =>
          rw [if_neg (by simp), if_pos rfl, chk_pos (by simp; omega), lt_, u64w (by omega) (by omega)]
          rfl
        | false => rfl
      rw [← hj]
      by_cases h0 : 0 < k
      · obtain ⟨y, hx⟩ : ∃ y, acc[k - 1]? = some y := ⟨_, List.getElem?_eq_getElem (by omega)⟩
        rw [if_pos (by simp only [decide_eq_true_eq]; omega), u64w (by omega) (by omega), at_int (n := k - 1) (by omega) hx]
        simp only [Option.bind_some]
        unfold rises
        rw [ha, hx]
      · rw [if_neg (by simp only [decide_eq_true_eq]; omega)]
        unfold rises
        rw [List.getElem?_eq_none (by omega)]
        rfl
    have hend : ∀ (a : List (List UInt8)) (j : Int), loop (fun s : List Int × Int × List (List UInt8) × Int => r03_ReadTexts_l3 Y s.1 s.2.1 s.2.2.1 s.2.2.2) (B, -1, a, j) = some (.inl (B, -1, a)) := by
      intro a j
      refine loop_end ?_
      show r03_ReadTexts_l3 Y B (-1) a j = _
      unfold r03_ReadTexts_l3
      split <;> rfl
    unfold pDict
    rcases (rText_is 32 hBs hB hq).cases with ⟨t, r, q', h1, h2, h3, h4⟩ | ⟨h1, t, h2⟩
    · rw [h1]
      have hl := hl3 _ _ h2
      by_cases hr : rises acc t = true
      · rw [if_pos hr] at hl
        simp only [hr, if_true]
        obtain ⟨y, hy, hm⟩ := rdict_loop hBs hB Y n hY hn m (k + 1) q' (acc ++ [t]) (by omega) (by simp [ha]) h3
        rw [h4] at hm
        exact ⟨y, (loop_nxt (s' := (B, (q' : Int), acc ++ [t], ((k + 1 : Nat) : Int))) hl).trans hy, hm⟩
      · rw [if_neg hr] at hl
        rw [Bool.not_eq_true] at hr
        simp only [hr, Bool.false_eq_true, if_false]
        exact ⟨_, loop_end hl, .inl rfl⟩
    · rw [h1]
      have hl := hl3 _ _ h2
      by_cases hr : rises acc t = true
      · rw [if_pos hr] at hl
        exact ⟨_, (loop_nxt (s' := (B, -1, acc ++ [t], ((k + 1 : Nat) : Int))) hl).trans (hend _ _), .inr ⟨_, rfl⟩⟩
      · rw [if_neg hr] at hl
        exact ⟨_, loop_end hl, .inl rfl⟩

theorem ridx_loop (ds : List (List UInt8)) (ix : List Int) (Z : S26) (hl : ix.length ≤ 4096) : ∀ (m k : Nat), k + m = ix.length → okI ds.length (ix.take k) = true →
    loop (fun s : List Bool × List (List UInt8) × Int => r03_ReadTexts_l2 ds (ix, Z) s.1 s.2.1 s.2.2) (usd ds.length (ix.take k), tx ds (ix.take k), (k : Int)) = some (if okI ds.length ix = true then .inl (usd ds.length ix, tx ds ix) else .inr ([], false))
  | 0, k, hk, ha => by
    have hke : k = ix.length := by omega
    subst hke
    rw [List.take_length] at ha ⊢
    rw [if_pos ha]
    refine loop_end ?_
    show r03_ReadTexts_l2 ds (ix, Z) (usd ds.length ix) (tx ds ix) (ix.length : Int) = _
    unfold r03_ReadTexts_l2
    rw [if_neg (by simp)]
  | m + 1, k, hk, ha => by
    have hkl : k < ix.length := by omega
    have hx := List.getElem?_eq_getElem hkl
    have hok := okI_snoc ds.length ix k hx
    have hl2 : r03_ReadTexts_l2 ds (ix, Z) (usd ds.length (ix.take k)) (tx ds (ix.take k)) (k : Int) = r03_ReadTexts_j1 ds (ix, Z) (usd ds.length (ix.take k)) (tx ds (ix.take k)) (k : Int) (!decide (0 ≤ ix[k] ∧ ix[k] < (ds.length : Int))) := by
      unfold r03_ReadTexts_l2
      rw [if_pos (by simp only [decide_eq_true_eq]; omega), at_int rfl hx]
      simp only [Option.bind_some]
      by_cases h0 : 0 ≤ ix[k]
      · rw [if_neg (by simp only [decide_eq_true_eq]; omega)]
        congr 1
        rw [Bool.eq_iff_iff]
        simp [h0]
      · rw [if_pos (by simp only [decide_eq_true_eq]; omega)]
        congr 1
        simp [h0]
    by_cases hc : 0 ≤ ix[k] ∧ ix[k] < (ds.length : Int)
    · obtain ⟨b, hb⟩ := usd_at ds.length (ix.take k) hc
      have ih := ridx_loop ds ix Z hl m (k + 1) (by omega) (by rw [hok, ha]; simp [hc])
      rw [← ih, take_snoc hx, tx_snoc, usd_snoc _ _ hc]
      refine loop_nxt (hl2.trans ?_)
      rw [show decide (0 ≤ ix[k] ∧ ix[k] < (ds.length : Int)) = true by simpa using hc]
      unfold r03_ReadTexts_j1
      rw [if_neg (by simp), at_int rfl hx]
      simp only [Option.bind_some]
      rw [hb, ds_at _ hc]
      simp only [Option.bind_some]
      rw [chk_pos (by rw [tx_length]; simp; omega), lt_, w64 (by omega) (by omega)]
      rfl
    · rw [if_neg (fun h => hc (by have := okI_take h (k + 1); rw [hok] at this; simp only [Bool.and_eq_true, decide_eq_true_eq] at this; exact this.2))]
      refine loop_end (hl2.trans ?_)
      rw [show decide (0 ≤ ix[k] ∧ ix[k] < (ds.length : Int)) = false by simpa using hc]
      rfl

theorem rall_loop (u : List Bool) (h : u.length < 1099511627776) : loop (fun s : Int => r03_ReadTexts_l1 u s) 0 = some (if false ∈ u then .inr ([], false) else .inl ()) := by
  have key : ∀ (m k : Nat), k + m = u.length → loop (fun s : Int => r03_ReadTexts_l1 u s) (k : Int) = some (if false ∈ u.drop k then .inr ([], false) else .inl ()) := by
    intro m
    induction m with
    | zero =>
      intro k hk
      rw [List.drop_of_length_le (by omega), if_neg (by simp)]
      refine loop_end ?_
      unfold r03_ReadTexts_l1
      rw [if_neg (by simp only [decide_eq_true_eq]; omega)]
    | succ m ih =>
      intro k hk
      have hkl : k < u.length := by omega
      have hx := List.getElem?_eq_getElem hkl
      have hd : u.drop k = u[k] :: u.drop (k + 1) := List.drop_eq_getElem_cons hkl
      rw [hd]
      generalize u[k] = b at hx hd ⊢
      cases b with
      | false =>
        rw [if_pos List.mem_cons_self]
        refine loop_end ?_
        unfold r03_ReadTexts_l1
        rw [if_pos (by simp only [decide_eq_true_eq]; omega), at_int rfl hx]
        rfl
      | true =>
        have he : (false ∈ true :: u.drop (k + 1)) = (false ∈ u.drop (k + 1)) := by simp
        simp only [he]
        rw [← ih (k + 1) (by omega)]
        refine loop_nxt ?_
        unfold r03_ReadTexts_l1
        rw [if_pos (by simp only [decide_eq_true_eq]; omega), at_int rfl hx]
        simp only [Option.bind_some]
        rw [if_neg (by simp), lt_, w64 (by omega) (by omega)]
        rfl
  have := key u.length 0 (by omega)
  rwa [List.drop_zero] at this

theorem rInts_no (B : List Int) : ∃ a, r03_Reader_Ints ⟨B, -1⟩ = some (a, ⟨B, -1⟩) := by
  unfold r03_Reader_Ints
  rw [rByte_no]
  simp only [Option.bind_some]
  rw [rUint_no]
  exact ⟨_, rfl⟩

theorem ReadTexts_ref {xs : List Int} (hBs : Bs xs) (hB : xs.length < 1099511627776) : r03_ReadTexts xs = some (match readT xs with | some T => (T, true) | none => ([], false)) := by
  unfold r03_ReadTexts readT pTexts
  have h := rUint_is 4096 hBs hB (q := 0) (by omega)
  rw [List.drop_zero, show ((0 : Nat) : Int) = 0 from rfl] at h
  have hno : ∀ a, r03_ReadTexts_x3_0 xs xs (-1) a = some ([], false) := by
    intro a
    unfold r03_ReadTexts_x3_0 r03_ReadTexts_b1
    obtain ⟨b, hb⟩ := rInts_no xs
    rw [hb]
    simp only [Option.bind_some]
    rw [if_pos (by simp only [bne_iff_ne, ne_eq]; omega)]
  rcases h.cases with ⟨n, r, q, h1, h2, h3, h4⟩ | ⟨h1, a, h2⟩
  · rw [h1, h2]
    obtain ⟨p1, p2, p3⟩ := (pU_some h1).1
    obtain ⟨n, rfl⟩ : ∃ m : Nat, n = (m : Int) := ⟨n.toNat, by omega⟩
    simp only [Option.bind_some, Int.toNat_natCast]
    obtain ⟨t, ht, hm⟩ := rdict_loop hBs hB ((n : Int), (⟨xs, (q : Int)⟩ : S26)) n rfl (by omega) n 0 q [] (by omega) rfl h3
    rw [show ((0 : Nat) : Int) = 0 from rfl] at ht
    rw [ht]
    rw [h4] at hm
    cases hd : pDict [] n r with
    | none =>
      rw [hd] at hm
      rcases hm with rfl | ⟨a, rfl⟩
      · rfl
      · exact hno a
    | some z =>
      obtain ⟨ds, r'⟩ := z
      rw [hd] at hm
      obtain ⟨q', rfl, g1, g2⟩ := hm
      have hdl := (pDict_bs n _ _ (by rw [← h4]; exact hBs.drop q) hd).2.2
      simp only [List.length_nil, Nat.zero_add] at hdl
      simp only [Option.bind_some]
      unfold r03_ReadTexts_x3_0 r03_ReadTexts_b1
      rcases (rInts_is hBs hB g1).cases with ⟨ix, r'', q'', k1, k2, k3, k4⟩ | ⟨k1, a, k2⟩
      · rw [g2] at k1
        rw [k1, k2]
        simp only [Option.bind_some]
        rw [at_end k3 k4]
        cases r'' with
        | cons b r'' =>
          rw [if_pos (by rfl)]
          by_cases hc : okI ds.length ix = true ∧ ¬ false ∈ usd ds.length ix
          · rw [if_pos hc]
          · rw [if_neg hc]
        | nil =>
          rw [if_neg (by simp), chk_pos (by omega)]
          have hil := pInts_len k1
          have hloop := ridx_loop ds ix ⟨xs, (q'' : Int)⟩ hil ix.length 0 (by omega) rfl
          rw [List.take_zero, usd_nil, show ((0 : Nat) : Int) = 0 from rfl] at hloop
          have e0 : tx ds [] = [] := rfl
          rw [e0] at hloop
          rw [Int.toNat_natCast, hloop]
          simp only [Option.bind_some]
          by_cases hok : okI ds.length ix = true
          · rw [if_pos hok]
            simp only
            unfold r03_ReadTexts_x2_2 r03_ReadTexts_b2
            rw [rall_loop _ (by rw [usd_length]; omega)]
            by_cases hu : false ∈ usd ds.length ix
            · rw [if_pos hu, if_neg (fun c => c.2 hu)]
              rfl
            · rw [if_neg hu, if_pos ⟨hok, hu⟩]
              rfl
          · rw [if_neg hok, if_neg (fun c => hok c.1)]
      · rw [g2] at k1
        rw [k1, k2]
        simp only [Option.bind_some]
        rw [if_pos (by simp only [bne_iff_ne, ne_eq]; omega)]
  · have e := rUint_none 4096 hBs hB (q := 0) (by omega) (by rw [List.drop_zero]; exact h1)
    rw [show ((0 : Nat) : Int) = 0 from rfl] at e
    rw [e, h1]
    simp only [Option.bind_some]
    rw [loop_end (t := Sum.inl (xs, -1, [])) (by
      show r03_ReadTexts_l3 (0, ⟨xs, -1⟩) xs (-1) [] 0 = _
      rfl)]
    exact hno []

theorem rreals_loop (l : List Int) (ok : Bool) (h : l.length ≤ 4096) : ∀ (m k : Nat), k + m = l.length → (∀ b ∈ l.take k, canon (ub b) = ub b) →
    loop (fun s : List Nat × Int => r03_ReadReals_l1 (l, ok) s.1 s.2) ((l.take k).map ub, (k : Int)) = some (if (l.drop k).all (fun b => canon (ub b) == ub b) = true then .inl (l.map ub) else .inr ([], false))
  | 0, k, hk, ha => by
    rw [loop_end (t := Sum.inl (l.map ub)) (by
      show r03_ReadReals_l1 (l, ok) ((l.take k).map ub) (k : Int) = _
      unfold r03_ReadReals_l1
      rw [if_neg (by simp only [decide_eq_true_eq]; omega), show k = l.length by omega, List.take_length]), show k = l.length by omega, List.drop_length]
    rfl
  | m + 1, k, hk, ha => by
    have hkl : k < l.length := by omega
    have hx := List.getElem?_eq_getElem hkl
    have hd : l.drop k = l[k] :: l.drop (k + 1) := List.drop_eq_getElem_cons hkl
    rw [hd, List.all_cons]
    have hlen : ((l.take k).map ub).length = k := by simp; omega
    by_cases hc : canon (ub l[k]) = ub l[k]
    · rw [show (canon (ub l[k]) == ub l[k]) = true by simpa using hc, Bool.true_and, loop_nxt (s' := ((l.take (k + 1)).map ub, ((k + 1 : Nat) : Int))) (by
        show r03_ReadReals_l1 (l, ok) ((l.take k).map ub) (k : Int) = _
        unfold r03_ReadReals_l1
        rw [if_pos (by simp only [decide_eq_true_eq]; omega), at_int rfl hx]
        simp only [Option.bind_some, lt_]
        rw [ub_eq, rOf_eq]
        simp only [Option.bind_some]
        rw [rBits_eq]
        simp only [Option.bind_some, Int.toNat_natCast]
        rw [canon_canon, hc, if_neg (by simp), chk_pos (by rw [hlen]; simp only [List.length_singleton]; omega), w64 (by omega) (by omega), take_snoc hx, List.map_append]
        rfl)]
      exact rreals_loop l ok h m (k + 1) (by omega) (fun b hb => by
        rw [take_snoc hx] at hb
        rcases List.mem_append.1 hb with q | q
        · exact ha b q
        · rw [List.mem_singleton.1 q]; exact hc)
    · rw [show (canon (ub l[k]) == ub l[k]) = false by simpa using hc, Bool.false_and, if_neg (by simp)]
      refine loop_end ?_
      show r03_ReadReals_l1 (l, ok) ((l.take k).map ub) (k : Int) = _
      unfold r03_ReadReals_l1
      rw [if_pos (by simp only [decide_eq_true_eq]; omega), at_int rfl hx]
      simp only [Option.bind_some, lt_]
      rw [ub_eq, rOf_eq]
      simp only [Option.bind_some]
      rw [rBits_eq]
      simp only [Option.bind_some, Int.toNat_natCast]
      rw [canon_canon, if_pos (by simp only [bne_iff_ne, ne_eq, Int.natCast_inj]; exact hc)]

def readR (xs : List Int) : Option (List Nat) := (readL xs).bind realsL
theorem ReadReals_ref {xs : List Int} (hB : Bs xs) (hl : xs.length < 1099511627776) : r03_ReadReals xs = some (match readR xs with | some l => (l, true) | none => ([], false)) := by
  unfold r03_ReadReals readR
  rw [ReadInts_ref hB hl]
  simp only [Option.bind_some]
  cases h : readL xs with
  | none =>
    simp only
    rw [loop_end (t := Sum.inl []) rfl]
    rfl
  | some l =>
    simp only [Option.bind_some]
    have := rreals_loop l true (readL_len h) l.length 0 (by omega) (fun b hb => by simp at hb)
    simp only [List.take_zero, List.map_nil, List.drop_zero] at this
    rw [show ((0 : Nat) : Int) = 0 from rfl] at this
    rw [this]
    unfold realsL
    simp only [Option.bind_some]
    cases (l.all fun b => canon (ub b) == ub b)
    · rfl
    · rfl
theorem realsL_canon {l : List Int} {r : List Nat} (h : realsL l = some r) : r.length = l.length := by
  unfold realsL at h
  split at h
  · cases h; simp
  · cases h
theorem texts_same (T : List (List UInt8)) (h : T.length < 1099511627776) : law03_texts T T = some true := by
  unfold law03_texts
  rw [if_neg (by simp)]
  have := loop_to (b := fun s : Int => law03_texts_l1 T T s) (fun k => (k : Int)) (t := Sum.inl ()) T.length (fun k hk => by
    have hx := List.getElem?_eq_getElem hk
    show law03_texts_l1 T T (k : Int) = _
    unfold law03_texts_l1
    rw [if_pos (by simp only [decide_eq_true_eq]; omega), at_int rfl hx]
    simp only [Option.bind_some]
    rw [if_neg (by simp), lt_, w64 (by omega) (by omega)]
    rfl) (by
    show law03_texts_l1 T T (T.length : Int) = _
    unfold law03_texts_l1
    rw [if_neg (by simp)])
  rw [show (0 : Int) = ((0 : Nat) : Int) from rfl, this]
  rfl
theorem readT_len {xs : List Int} {T : List (List UInt8)} (h : readT xs = some T) : T.length ≤ 4096 := by
  unfold readT at h
  split at h
  · rename_i T' he
    cases h
    unfold pTexts at he
    split at he
    · split at he
      · split at he
        · split at he
          · rename_i hi _
            cases he
            rw [tx_length]
            exact pInts_len hi
          · cases he
        · cases he
      · cases he
    · cases he
  · cases h
theorem same_loop (R : List Nat) (f : Int) (g : Bool) (h : R.length < 1099511627776) : loop (fun s : Int => law03_ColumnReads_l1 (R, f) (R, g) s) 0 = some (.inl ()) := by
  have := loop_to (b := fun s : Int => law03_ColumnReads_l1 (R, f) (R, g) s) (fun k => (k : Int)) (t := Sum.inl ()) R.length (fun k hk => by
    have hx := List.getElem?_eq_getElem hk
    show law03_ColumnReads_l1 (R, f) (R, g) (k : Int) = _
    unfold law03_ColumnReads_l1
    rw [if_pos (by simp only [decide_eq_true_eq]; omega), at_int rfl hx]
    simp only [Option.bind_some]
    rw [rSame_eq]
    simp only [Option.bind_some]
    rw [if_neg (by simp), lt_, w64 (by omega) (by omega)]
    rfl) (by
    show law03_ColumnReads_l1 (R, f) (R, g) (R.length : Int) = _
    unfold law03_ColumnReads_l1
    rw [if_neg (by simp)])
  rwa [show ((0 : Nat) : Int) = 0 from rfl] at this

theorem ColumnReads (a0 : List Int) (h : gL 1 (gI .u8) a0) : law03_ColumnReads a0 = some true := by
  have hB : Bs a0 := fun x hx => by
    have := h.2 x hx
    unfold gI Lit.wf at this
    simp only [Bool.and_eq_true, decide_eq_true_eq] at this
    exact ⟨this.1, Int.lt_of_le_of_lt this.2 (by decide)⟩
  have hj : law03_ColumnReads_j1 a0 true = some true := by
    unfold law03_ColumnReads_j1; rw [if_pos rfl, awake3_eq]; rfl
  unfold law03_ColumnReads
  rw [awake3_eq]
  simp only [Option.bind_some]
  rw [if_neg (by simp)]
  by_cases hl : 2000 < a0.length
  · rw [show decide (2000 < (a0.length : Int)) = true by simp; omega, hj]
  rw [show decide (2000 < (a0.length : Int)) = false by simp; omega]
  unfold law03_ColumnReads_j1
  have e1 := ReadInts_col hB (by omega)
  have e2 := ReadInts_ref hB (by omega)
  have e3 := ReadTexts_col hB (by omega)
  have e4 := ReadTexts_ref hB (by omega)
  have e5 := ReadReals_col hB (by omega)
  have e6 := ReadReals_ref hB (by omega)
  rw [if_neg (by simp), e1, e2, e3, e4, e5, e6]
  unfold readR
  have hL : ∀ l, readL a0 = some l → l.length ≤ 4096 := fun l hl => readL_len hl
  have hT : ∀ T, readT a0 = some T → T.length ≤ 4096 := fun T hT => readT_len hT
  have hR : ∀ l, (readL a0).bind realsL = some l → l.length ≤ 4096 := by
    intro r hr
    cases h : readL a0 with
    | none => rw [h] at hr; cases hr
    | some l =>
      rw [h] at hr
      have := realsL_canon hr
      have := hL l h
      omega
  generalize (readL a0).bind realsL = R at hR ⊢
  generalize readT a0 = T at hT ⊢
  generalize readL a0 = L at hL ⊢
  have hj3 : ∀ (l : List Int) (f : Int) (g : Bool) (t : List (List UInt8)) (f' : Int) (g' : Bool), l.length ≤ 4096 → t.length ≤ 4096 → law03_ColumnReads_j3 (l, f) (l, g) (t, f') (t, g') = some true := by
    intro l f g t f' g' h1 h2
    unfold law03_ColumnReads_j3
    rw [lints_eq l (by omega)]
    simp only [Option.bind_some]
    rw [if_pos trivial, texts_same t (by omega)]
    rfl
  have hl2 : ∀ (l : List Int) (f : Int) (g : Bool) (t : List (List UInt8)) (f' : Int) (g' : Bool) (r : List Nat) (f'' : Int), l.length ≤ 4096 → t.length ≤ 4096 → r.length ≤ 4096 → law03_ColumnReads_j2 (l, f) (l, g) (t, f') (t, g') (r, f'') (r, true) false = some true := by
    intro l f g t f' g' r f'' h1 h2 h3
    unfold law03_ColumnReads_j2
    rw [if_neg (by simp), if_pos rfl, if_neg (by simp), same_loop r f'' true (by omega)]
    exact hj3 l f g t f' g' h1 h2
  have hl3 : ∀ (l : List Int) (f : Int) (g : Bool) (t : List (List UInt8)) (f' : Int) (g' : Bool) (r : List Nat) (f'' : Int), l.length ≤ 4096 → t.length ≤ 4096 → law03_ColumnReads_j2 (l, f) (l, g) (t, f') (t, g') (r, f'') (r, false) false = some true := by
    intro l f g t f' g' r f'' h1 h2
    unfold law03_ColumnReads_j2
    rw [if_neg (by simp), if_neg (by simp)]
    exact hj3 l f g t f' g' h1 h2
  cases L with
  | none =>
    cases T with
    | none =>
      cases R with
      | none => exact hl3 [] 3 false [] 3 false [] 3 (by simp) (by simp)
      | some r => exact hl2 [] 3 false [] 3 false r 0 (by simp) (by simp) (hR r rfl)
    | some t =>
      cases R with
      | none => exact hl3 [] 3 false t 0 true [] 3 (by simp) (hT t rfl)
      | some r => exact hl2 [] 3 false t 0 true r 0 (by simp) (hT t rfl) (hR r rfl)
  | some l =>
    cases T with
    | none =>
      cases R with
      | none => exact hl3 l 0 true [] 3 false [] 3 (hL l rfl) (by simp)
      | some r => exact hl2 l 0 true [] 3 false r 0 (hL l rfl) (by simp) (hR r rfl)
    | some t =>
      cases R with
      | none => exact hl3 l 0 true t 0 true [] 3 (hL l rfl) (hT t rfl)
      | some r => exact hl2 l 0 true t 0 true r 0 (hL l rfl) (hT t rfl) (hR r rfl)
end Go.Proofs.Ythokgnonmcgkcaa.P
