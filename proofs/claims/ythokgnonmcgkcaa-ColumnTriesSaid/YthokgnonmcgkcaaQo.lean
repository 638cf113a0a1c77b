/- What texts are read of any bytes. -/
import Derived.Test.YthokgnonmcgkcaaQn
import Derived.Test.YthokgnonmcgkcaaQk
import Derived.Test.YthokgnonmcgkcaaDg
namespace Go.Proofs.Ythokgnonmcgkcaa.P
open Go Go.RowKit Go.Proofs.Ythokgnonmcgkcaa.E Go.Proofs.Ythokgnonmcgkcaa.M
set_option linter.unusedVariables false

def rises (acc : List (List UInt8)) (t : List UInt8) : Bool := match acc[acc.length - 1]? with
  | some y => Op.bytesLess y t
  | none => true
def pDict (acc : List (List UInt8)) : Nat → List Int → Option (List (List UInt8) × List Int)
  | 0, xs => some (acc, xs)
  | n + 1, xs => match pT 32 xs with
    | some (t, r) => if rises acc t = true then pDict (acc ++ [t]) n r else none
    | none => none
def okI (n : Nat) (ix : List Int) : Bool := ix.all fun i => decide (0 ≤ i ∧ i < (n : Int))
def usd (n : Nat) (ix : List Int) : List Bool := (List.range n).map fun (j : Nat) => decide ((j : Int) ∈ ix)
def tx (ds : List (List UInt8)) (ix : List Int) : List (List UInt8) := ix.map fun i => ds.getD i.toNat []
def pTexts (xs : List Int) : Option (List (List UInt8) × List Int) := match pU 4096 xs with
  | some (n, r) => match pDict [] n.toNat r with
    | some (ds, r') => match pInts r' with
      | some (ix, r'') => if okI ds.length ix = true ∧ false ∉ usd ds.length ix then some (tx ds ix, r'') else none
      | none => none
    | none => none
  | none => none

theorem pT_bs {most : Int} {xs r : List Int} {t : List UInt8} (hB : Bs xs) (h : pT most xs = some (t, r)) : Bs r ∧ r.length ≤ xs.length := by
  unfold pT at h
  split at h
  · rename_i n r' he
    obtain ⟨_, p, hp, _⟩ := pU_some he
    have hb := pU_bs hB he
    split at h
    · cases h
      refine ⟨hb.drop _, ?_⟩
      rw [hp]; simp; omega
    · cases h
  · cases h
theorem pDict_bs : ∀ (n : Nat) (acc : List (List UInt8)) (xs : List Int) {ds : List (List UInt8)} {r : List Int}, Bs xs → pDict acc n xs = some (ds, r) → Bs r ∧ r.length ≤ xs.length ∧ ds.length = acc.length + n
  | 0, acc, xs, ds, r, hB, h => by cases h; exact ⟨hB, Nat.le_refl _, rfl⟩
  | n + 1, acc, xs, ds, r, hB, h => by
    unfold pDict at h
    split at h
    · rename_i t r' he
      obtain ⟨h1, h2⟩ := pT_bs hB he
      split at h
      · obtain ⟨g1, g2, g3⟩ := pDict_bs n _ _ h1 h
        refine ⟨g1, by omega, ?_⟩
        rw [g3, List.length_append, List.length_singleton]; omega
      · cases h
    · cases h

/-! whether it holds one -/
theorem contains_eq (l : List Bool) (b : Bool) (h : l.length < 1099511627776) : slices_Contains_bool_bool l b = some (decide (b ∈ l)) := by
  unfold slices_Contains_bool_bool slices_Index_bool_bool
  have key : ∀ (m k : Nat), k + m = l.length → ∃ y, loop (fun s : Int => slices_Index_bool_bool_l1 l b s) (k : Int) = some y ∧ if b ∈ l.drop k then ∃ j : Nat, y = .inr (j : Int) else y = .inl () := by
    intro m
    induction m with
    | zero =>
      intro k hk
      refine ⟨.inl (), loop_end ?_, ?_⟩
      · unfold slices_Index_bool_bool_l1
        rw [if_neg (by simp only [decide_eq_true_eq]; omega)]
      · rw [List.drop_of_length_le (by omega), if_neg (by simp)]
    | succ m ih =>
      intro k hk
      have hkl : k < l.length := by omega
      have hx := List.getElem?_eq_getElem hkl
      have hd : l.drop k = l[k] :: l.drop (k + 1) := List.drop_eq_getElem_cons hkl
      rw [hd]
      by_cases hb : b = l[k]
      · refine ⟨.inr (k : Int), loop_end ?_, ?_⟩
        · unfold slices_Index_bool_bool_l1
          rw [if_pos (by simp only [decide_eq_true_eq]; omega), at_int rfl hx]
          simp only [Option.bind_some]
          rw [if_pos (by simpa using hb)]
        · rw [if_pos (by rw [hb]; exact List.mem_cons_self)]
          exact ⟨k, rfl⟩
      · obtain ⟨y, hy, hm⟩ := ih (k + 1) (by omega)
        refine ⟨y, (loop_nxt (s' := ((k + 1 : Nat) : Int)) ?_).trans hy, ?_⟩
        · unfold slices_Index_bool_bool_l1
          rw [if_pos (by simp only [decide_eq_true_eq]; omega), at_int rfl hx]
          simp only [Option.bind_some]
          rw [if_neg (by simpa using hb), lt_, w64 (by omega) (by omega)]
          rfl
        · have he : (b ∈ l[k] :: l.drop (k + 1)) = (b ∈ l.drop (k + 1)) := propext ⟨fun h => (List.mem_cons.1 h).resolve_left hb, fun h => List.mem_cons_of_mem _ h⟩
          simpa only [he] using hm
  obtain ⟨y, hy, hm⟩ := key l.length 0 (by omega)
  rw [show ((0 : Nat) : Int) = 0 from rfl] at hy
  rw [hy, List.drop_zero] at *
  by_cases hb : b ∈ l
  · rw [if_pos hb] at hm
    obtain ⟨j, rfl⟩ := hm
    simp only [Option.bind_some]
    rw [show decide (0 ≤ (j : Int)) = true by simp, show decide (b ∈ l) = true by simpa using hb]
  · rw [if_neg hb] at hm
    subst hm
    rw [show decide (b ∈ l) = false by simpa using hb]
    rfl

theorem okI_snoc (n : Nat) (ix : List Int) (k : Nat) {x : Int} (h : ix[k]? = some x) : okI n (ix.take (k + 1)) = (okI n (ix.take k) && decide (0 ≤ x ∧ x < (n : Int))) := by
  unfold okI
  rw [take_snoc h, List.all_append]
  simp
theorem okI_take {n : Nat} {ix : List Int} (h : okI n ix = true) (k : Nat) : okI n (ix.take k) = true := by
  unfold okI at *
  rw [List.all_eq_true] at *
  exact fun x hx => h x (List.mem_of_mem_take hx)
theorem usd_snoc (n : Nat) (ix : List Int) {x : Int} (hx : 0 ≤ x ∧ x < (n : Int)) : usd n (ix ++ [x]) = (usd n ix).set x.toNat true := by
  apply List.ext_getElem? fun j => ?_
  unfold usd
  rw [List.getElem?_set]
  simp only [List.getElem?_map, List.length_map, List.length_range]
  rcases Nat.lt_or_ge j n with hj | hj
  · rw [List.getElem?_range hj]
    by_cases e : x.toNat = j
    · rw [if_pos e, if_pos (by omega)]
      simp
      right; omega
    · rw [if_neg e]
      have : ¬ (j : Int) = x := by omega
      simp [this]
  · rw [List.getElem?_eq_none (by simpa using hj)]
    rw [if_neg (by omega)]
    rfl
theorem usd_nil (n : Nat) : usd n [] = List.replicate n false := by
  unfold usd
  rw [List.eq_replicate_iff]
  refine ⟨by simp, fun b hb => ?_⟩
  obtain ⟨q, _, rfl⟩ := List.mem_map.1 hb
  simp
theorem usd_length (n : Nat) (ix : List Int) : (usd n ix).length = n := by simp [usd]
theorem usd_at (n : Nat) (ix : List Int) {x : Int} (hx : 0 ≤ x ∧ x < (n : Int)) : ∃ b, at_ (usd n ix) x = some b := by
  have : x.toNat < (usd n ix).length := by rw [usd_length]; omega
  exact ⟨_, at_int (n := x.toNat) (by omega) (List.getElem?_eq_getElem this)⟩
theorem ds_at (ds : List (List UInt8)) {x : Int} (hx : 0 ≤ x ∧ x < (ds.length : Int)) : at_ ds x = some (ds.getD x.toNat []) := by
  have : x.toNat < ds.length := by omega
  refine at_int (n := x.toNat) (by omega) ?_
  rw [List.getD_eq_getElem?_getD, List.getElem?_eq_getElem this]
  rfl
theorem tx_snoc (ds : List (List UInt8)) (ix : List Int) (x : Int) : tx ds (ix ++ [x]) = tx ds ix ++ [ds.getD x.toNat []] := by
  unfold tx; rw [List.map_append]; rfl
theorem tx_length (ds : List (List UInt8)) (ix : List Int) : (tx ds ix).length = ix.length := by simp [tx]

/-! column -/
theorem cidx_loop (ds : List (List UInt8)) (ix : List Int) (Y : S72) (xs : List Int) (hl : ix.length ≤ 4096) : ∀ (m k : Nat), k + m = ix.length → okI ds.length (ix.take k) = true →
    ∃ y, loop (fun s : List Int × List (List UInt8) × List Bool × Int => column_ReadTexts_1_l1 ds (ix, Y) s.1 s.2.1 s.2.2.1 s.2.2.2) (xs, tx ds (ix.take k), usd ds.length (ix.take k), (k : Int)) = some y ∧
      if okI ds.length ix = true then y = .inl (xs, tx ds ix, usd ds.length ix) else ∃ s, y = .inr (.inr s)
  | 0, k, hk, ha => by
    have hke : k = ix.length := by omega
    subst hke
    rw [List.take_length] at ha ⊢
    refine ⟨.inl (xs, tx ds ix, usd ds.length ix), loop_end ?_, by rw [if_pos ha]⟩
    show column_ReadTexts_1_l1 ds (ix, Y) xs (tx ds ix) (usd ds.length ix) (ix.length : Int) = _
    unfold column_ReadTexts_1_l1
    rw [if_neg (by simp)]
  | m + 1, k, hk, ha => by
    have hkl : k < ix.length := by omega
    have hx := List.getElem?_eq_getElem hkl
    have hok := okI_snoc ds.length ix k hx
    have hno : ∀ s, column_ReadTexts_1_l1 ds (ix, Y) xs (tx ds (ix.take k)) (usd ds.length (ix.take k)) (k : Int) = some (.inr (.inr (.inr s))) → ¬ (0 ≤ ix[k] ∧ ix[k] < (ds.length : Int)) →
        ∃ y, loop (fun s : List Int × List (List UInt8) × List Bool × Int => column_ReadTexts_1_l1 ds (ix, Y) s.1 s.2.1 s.2.2.1 s.2.2.2) (xs, tx ds (ix.take k), usd ds.length (ix.take k), (k : Int)) = some y ∧
      if okI ds.length ix = true then y = .inl (xs, tx ds ix, usd ds.length ix) else ∃ s, y = .inr (.inr s) := by
      intro s hs hn
      refine ⟨_, loop_end hs, ?_⟩
      rw [if_neg]
      · exact ⟨_, rfl⟩
      · intro h
        have := okI_take h (k + 1)
        rw [hok] at this
        simp only [Bool.and_eq_true, decide_eq_true_eq] at this
        exact hn this.2
    by_cases h0 : 0 ≤ ix[k]
    · by_cases h1 : ix[k] < (ds.length : Int)
      · obtain ⟨b, hb⟩ := usd_at ds.length (ix.take k) ⟨h0, h1⟩
        obtain ⟨y, hy, hm⟩ := cidx_loop ds ix Y xs hl m (k + 1) (by omega) (by rw [hok, ha]; simp [h0, h1])
        rw [take_snoc hx, tx_snoc, usd_snoc _ _ ⟨h0, h1⟩] at hy
        refine ⟨y, (loop_nxt (s' := (xs, tx ds (ix.take k) ++ [ds.getD ix[k].toNat []], (usd ds.length (ix.take k)).set ix[k].toNat true, ((k + 1 : Nat) : Int))) ?_).trans hy, hm⟩
        show column_ReadTexts_1_l1 ds (ix, Y) xs (tx ds (ix.take k)) (usd ds.length (ix.take k)) (k : Int) = _
        unfold column_ReadTexts_1_l1
        rw [if_pos (by simp only [decide_eq_true_eq]; omega), at_int rfl hx]
        simp only [Option.bind_some]
        rw [if_pos (by simpa using h0), show decide (ix[k] < (ds.length : Int)) = true by simpa using h1, Check_t]
        simp only [Option.bind_some, s_inl]
        unfold column_ReadTexts_1_j1
        rw [hb, ds_at _ ⟨h0, h1⟩]
        simp only [Option.bind_some]
        rw [chk_pos (by rw [tx_length]; simp; omega), lt_, w64 (by omega) (by omega)]
        rfl
      · refine hno (⟨xs⟩, tx ds (ix.take k)) ?_ (fun c => h1 c.2)
        unfold column_ReadTexts_1_l1
        rw [if_pos (by simp only [decide_eq_true_eq]; omega), at_int rfl hx]
        simp only [Option.bind_some]
        rw [if_pos (by simpa using h0), show decide (ix[k] < (ds.length : Int)) = false by simpa using h1, Check_f]
        rfl
    · refine hno (⟨xs⟩, tx ds (ix.take k)) ?_ (fun c => h0 c.1)
      unfold column_ReadTexts_1_l1
      rw [if_pos (by simp only [decide_eq_true_eq]; omega), at_int rfl hx]
      simp only [Option.bind_some]
      rw [if_neg (by simpa using h0), Check_f]
      rfl

theorem cdict_loop (Y : Int × S72) (n : Nat) (hY : Y.1 = (n : Int)) (hn : n ≤ 4096) : ∀ (m k : Nat) (acc : List (List UInt8)) (xs : List Int), Bs xs → xs.length < 1099511627776 → k + m = n → acc.length = k →
    ∃ y, loop (fun s : List Int × List (List UInt8) × Int => column_ReadTexts_1_l2 [] Y s.1 s.2.1 s.2.2) (xs, acc, (k : Int)) = some y ∧ match pDict acc m xs with
      | some (l, r) => y = .inl (r, l)
      | none => ∃ s, y = .inr (.inr s)
  | 0, k, acc, xs, hB, hl, hk, ha => by
    refine ⟨.inl (xs, acc), loop_end ?_, rfl⟩
    show column_ReadTexts_1_l2 [] Y xs acc (k : Int) = _
    unfold column_ReadTexts_1_l2
    rw [hY, if_neg (by simp only [decide_eq_true_eq]; omega)]
  | m + 1, k, acc, xs, hB, hl, hk, ha => by
    unfold pDict
    rcases (Text_is 32 hB (by omega)).cases with ⟨t, r, h1, h2⟩ | ⟨h1, s, h2⟩
    · rw [h1]
      obtain ⟨hBr, hlr⟩ := pT_bs hB h1
      have hl2 : ∀ (z : S72 ⊕ S72), column_Reader_Check (⟨r⟩ : S72) (rises acc t) = some z → column_ReadTexts_1_l2 [] Y xs acc (k : Int) = (sum_ z (fun y => column_ReadTexts_1_j2 acc (k : Int) (t, ⟨r⟩) y.f0) (fun y => some (.inr (.inr (.inr (y, [])))))) := by
        intro z hz
        unfold column_ReadTexts_1_l2
        rw [hY, if_pos (by simp only [decide_eq_true_eq]; omega), h2]
        simp only [Option.bind_some, s_inl, lt_]
        unfold rises at hz
        by_cases h0 : acc.length = 0
        · rw [List.getElem?_eq_none (by omega)] at hz
          rw [if_pos (by simpa using h0), hz]
          rfl
        · have hx := List.getElem?_eq_getElem (l := acc) (i := acc.length - 1) (by omega)
          rw [hx] at hz
          rw [if_neg (by simpa using h0), w64 (by omega) (by omega), at_int (n := acc.length - 1) (by omega) hx]
          simp only [Option.bind_some]
          rw [hz]
          rfl
      by_cases hr : rises acc t = true
      · obtain ⟨y, hy, hm⟩ := cdict_loop Y n hY hn m (k + 1) (acc ++ [t]) r hBr (by omega) (by omega) (by simp [ha])
        simp only [hr, if_true]
        refine ⟨y, (loop_nxt (s' := (r, acc ++ [t], ((k + 1 : Nat) : Int))) ?_).trans hy, hm⟩
        refine (hl2 _ (by rw [hr, Check_t])).trans ?_
        rw [s_inl]
        unfold column_ReadTexts_1_j2
        rw [chk_pos (by simp; omega), lt_, u64w (by omega) (by omega)]
        rfl
      · rw [Bool.not_eq_true] at hr
        simp only [hr, Bool.false_eq_true, if_false]
        exact ⟨_, loop_end ((hl2 _ (by rw [hr, Check_f])).trans rfl), _, rfl⟩
    · rw [h1]
      refine ⟨_, loop_end (t := Sum.inr (.inr (s, []))) ?_, _, rfl⟩
      show column_ReadTexts_1_l2 [] Y xs acc (k : Int) = _
      unfold column_ReadTexts_1_l2
      rw [hY, if_pos (by simp only [decide_eq_true_eq]; omega), h2]
      rfl

theorem texts_is {xs : List Int} (hB : Bs xs) (hl : xs.length < 1099511627776) : match pTexts xs with
    | some (T, r) => column_ReadTexts_1 ⟨xs⟩ [] = some (.inl (⟨r⟩, T))
    | none => ∃ s, column_ReadTexts_1 ⟨xs⟩ [] = some (.inr s) := by
  unfold column_ReadTexts_1 pTexts
  rcases (Uint_is 4096 hB).cases with ⟨n, r, h1, h2⟩ | ⟨h1, s, h2⟩
  · rw [h1, h2]
    obtain ⟨⟨q1, q2, q3⟩, p, hp, _⟩ := pU_some h1
    have hBr := pU_bs hB h1
    have hrl : r.length ≤ xs.length := by rw [hp]; simp
    obtain ⟨n, rfl⟩ : ∃ m : Nat, n = (m : Int) := ⟨n.toNat, by omega⟩
    simp only [Option.bind_some, s_inl, Int.toNat_natCast]
    obtain ⟨y, hy, hm⟩ := cdict_loop ((n : Int), ⟨r⟩) n rfl (by omega) n 0 [] r hBr (by omega) (by omega) rfl
    rw [show ((0 : Nat) : Int) = 0 from rfl] at hy
    rw [hy]
    simp only [Option.bind_some]
    cases hd : pDict [] n r with
    | none =>
      rw [hd] at hm
      obtain ⟨s, rfl⟩ := hm
      exact ⟨s, rfl⟩
    | some z =>
      obtain ⟨ds, r'⟩ := z
      rw [hd] at hm
      simp only at hm
      subst hm
      obtain ⟨hBr', hrl', hdl⟩ := pDict_bs n _ _ hBr hd
      have hdl' : ds.length = n := by simpa using hdl
      simp only
      unfold column_ReadTexts_1_x2_0 column_ReadTexts_1_b1
      rw [chk_pos (by omega)]
      rcases (ints_is hBr' (by omega)).cases with ⟨ix, r'', h3, h4⟩ | ⟨h3, s, h4⟩
      · rw [h3, h4]
        have hil := pInts_len h3
        simp only [Option.bind_some, s_inl]
        obtain ⟨y, hy, hm⟩ := cidx_loop ds ix ⟨r''⟩ r'' hil ix.length 0 (by omega) rfl
        rw [List.take_zero, usd_nil, show ((0 : Nat) : Int) = 0 from rfl] at hy
        rw [Int.toNat_natCast]
        have e0 : tx ds [] = [] := rfl
        rw [e0] at hy
        rw [hy]
        simp only [Option.bind_some]
        by_cases hok : okI ds.length ix = true
        · rw [if_pos hok] at hm
          subst hm
          simp only
          unfold column_ReadTexts_1_x1_2 column_ReadTexts_1_b2
          rw [contains_eq _ _ (by rw [usd_length]; omega)]
          simp only [Option.bind_some]
          by_cases hu : false ∈ usd ds.length ix
          · rw [show decide (false ∈ usd ds.length ix) = true by simpa using hu, Bool.not_true, Check_f, if_neg (fun c => c.2 hu)]
            exact ⟨_, rfl⟩
          · rw [show decide (false ∈ usd ds.length ix) = false by simpa using hu, Bool.not_false, Check_t, if_pos ⟨hok, hu⟩]
            rfl
        · rw [if_neg hok] at hm
          obtain ⟨s, rfl⟩ := hm
          rw [if_neg (fun c => hok c.1)]
          exact ⟨s, rfl⟩
      · rw [h3, h4]
        exact ⟨_, rfl⟩
  · rw [h1, h2]
    exact ⟨_, rfl⟩

def readT (xs : List Int) : Option (List (List UInt8)) := match pTexts xs with
  | some (T, []) => some T
  | _ => none
theorem ReadTexts_col {xs : List Int} (hB : Bs xs) (hl : xs.length < 1099511627776) : column_ReadTexts xs = some (match readT xs with | some T => (T, 0) | none => ([], 3)) := by
  unfold column_ReadTexts Try_column_ReadTexts_1 readT
  have h := texts_is hB hl
  cases hp : pTexts xs with
  | none =>
    rw [hp] at h
    obtain ⟨s, hs⟩ := h
    rw [hs]
    rfl
  | some z =>
    obtain ⟨T, r⟩ := z
    rw [hp] at h
    simp only at h
    rw [h]
    cases r with
    | nil => rfl
    | cons b r =>
      simp only [Option.bind_some, s_inl]
      rw [show (((b :: r).length : Int) == 0) = false by simp; omega]
      rfl
end Go.Proofs.Ythokgnonmcgkcaa.P
