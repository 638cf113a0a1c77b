/- The laws ColumnInts, ColumnPacked, ColumnFar, in plain words. -/
import Derived.Test.YthokgnonmcgkcaaQi
namespace Go.Proofs.Ythokgnonmcgkcaa.P
open Go Go.RowKit Go.Proofs.Ythokgnonmcgkcaa.E Go.Proofs.Ythokgnonmcgkcaa.M
set_option linter.unusedVariables false

theorem gl64 {l : List Int} (h : gL 8 (gI .i64) l) : I64 l := fun x hx => gI64 (h.2 x hx)
theorem gl8 {l : List Int} (h : gL 1 (gI .u8) l) : Bs l := fun x hx => by
  have := h.2 x hx
  unfold gI Lit.wf at this
  simp only [Bool.and_eq_true, decide_eq_true_eq] at this
  have h1 : (0 : Int) ≤ x := this.1
  have h2 : x ≤ 255 := this.2
  omega

theorem ColumnInts (a0 : List Int) (h : gL 8 (gI .i64) a0) : law03_ColumnInts a0 = some true := by
  have hi := gl64 h
  have hj : law03_ColumnInts_j1 a0 true = some true := by
    unfold law03_ColumnInts_j1; rw [if_pos rfl, awake3_eq]; rfl
  unfold law03_ColumnInts
  rw [awake3_eq]
  simp only [Option.bind_some]
  rw [if_neg (by simp)]
  by_cases hl : 300 < a0.length
  · rw [show decide (300 < (a0.length : Int)) = true by simp; omega, hj]
  rw [show decide (300 < (a0.length : Int)) = false by simp; omega]
  unfold law03_ColumnInts_j1
  rw [if_neg (by simp), Ints_col (by omega) hi]
  simp only [Option.bind_some]
  rw [Ints_ref (by omega) hi]
  simp only [Option.bind_some]
  rw [if_neg (by simp)]
  have hr := read_ints (l := a0) (by omega) hi
  obtain ⟨w0, hw0, e0⟩ := intsL_as a0
  have hle : ∀ w, w < 4 → (intsL a0).length ≤ (asL w a0).length := fun w hw => intsL_le a0 hw
  have hbest : column_ReadInts (intsL a0) = some (a0, 0) := by rw [e0]; exact ReadInts_as hw0 (by omega) hi
  have hA : ∀ w : Nat, w < 4 → column_As (w : Int) a0 = some (asL w a0) ∧ r03_As (w : Int) a0 = some (asL w a0) ∧ column_ReadInts (asL w a0) = some (a0, 0) := fun w hw => ⟨As_col hw (by omega) hi, As_ref hw (by omega) hi, ReadInts_as hw (by omega) hi⟩
  clear e0 hr
  generalize intsL a0 = best at *
  have := loop_to (b := fun s : Int => law03_ColumnInts_l1 a0 best s) (fun k => (k : Int)) (t := Sum.inl ()) 4 (fun w hw => by
    obtain ⟨h1, h2, h3⟩ := hA w hw
    have h4 := hle w hw
    show law03_ColumnInts_l1 a0 best (w : Int) = _
    generalize asL w a0 = p at h1 h2 h3 h4
    unfold law03_ColumnInts_l1
    rw [if_pos (by simp only [decide_eq_true_eq]; omega), h1]
    simp only [Option.bind_some]
    rw [h3]
    simp only [Option.bind_some]
    rw [h2]
    simp only [Option.bind_some]
    rw [if_neg (by simp), if_neg (by simp), lints_eq a0 (by omega)]
    simp only [Option.bind_some]
    rw [if_neg (by simp), show decide ((p.length : Int) < (best.length : Int)) = false by simp; omega]
    unfold law03_ColumnInts_j2
    rw [if_neg (by simp), lt_, u8w (by omega) (by omega)]
    rfl) (by
    show law03_ColumnInts_l1 a0 best ((4 : Nat) : Int) = _
    unfold law03_ColumnInts_l1
    rw [if_neg (by decide)])
  rw [show (0 : Int) = ((0 : Nat) : Int) from rfl, this]
  simp only [Option.bind_some]
  unfold law03_ColumnInts_x1_0 law03_ColumnInts_b1
  rw [hbest]
  simp only [Option.bind_some]
  rw [if_pos (by rfl), lints_eq a0 (by omega)]
  rfl

theorem ColumnFar (a0 : List Bool) (a1 : Int) (h0 : gL 1 gB a0) (h1 : gI .i64 a1) : law03_ColumnFar a0 a1 = some true := by
  have ha := gI64 h1
  have hj : law03_ColumnFar_j1 a0 a1 true = some true := by
    unfold law03_ColumnFar_j1; rw [if_pos rfl, awake3_eq]; rfl
  unfold law03_ColumnFar
  rw [awake3_eq]
  simp only [Option.bind_some]
  rw [if_neg (by simp)]
  by_cases hl : 50 < a0.length
  · rw [show decide (50 < (a0.length : Int)) = true by simp; omega, hj]
  rw [show decide (50 < (a0.length : Int)) = false by simp; omega]
  unfold law03_ColumnFar_j1
  rw [if_neg (by simp)]
  obtain ⟨m, hm, hmi, hml⟩ := loop_good (b := fun s : List Int × Int => law03_ColumnFar_l2 a0 a1 s.1 s.2) (s := ([], 0))
    (fun s => ∃ k : Nat, s.2 = k ∧ k ≤ a0.length ∧ s.1.length ≤ 2 * k ∧ I64 s.1) (fun s => ((a0.length : Int) - s.2).toNat) (fun m => I64 m ∧ m.length ≤ 100)
    ⟨0, rfl, by omega, by simp, fun x hx => by cases hx⟩ (by
      rintro ⟨l, q⟩ ⟨k, hq, hk, hll, hli⟩
      simp only at hq hll hli
      subst hq
      show (∃ s', law03_ColumnFar_l2 a0 a1 l (k : Int) = some (.inl s') ∧ _) ∨ ∃ t, law03_ColumnFar_l2 a0 a1 l (k : Int) = some (.inr t) ∧ _
      unfold law03_ColumnFar_l2 law03_ColumnFar_b3
      by_cases hlt : k < a0.length
      · rw [if_pos (by simp only [decide_eq_true_eq]; omega), at_int rfl (List.getElem?_eq_getElem hlt)]
        simp only [Option.bind_some, lt_]
        rw [w64 (n := (k : Int) + 1) (by omega) (by omega)]
        have e64 : i64 (-9223372036854775808) ∧ i64 9223372036854775807 := by unfold i64; omega
        by_cases hb : a0[k] = true
        · rw [if_pos hb, chk_pos (by simp; omega)]
          refine .inl ⟨_, rfl, ⟨k + 1, by simp, by omega, by simp only [List.length_append, List.length_cons, List.length_nil]; omega, fun x hx => ?_⟩, by simp only; omega⟩
          rcases List.mem_append.1 hx with h | h
          · exact hli x h
          · simp only [List.mem_cons, List.mem_nil_iff, or_false] at h
            rcases h with rfl | rfl
            · exact e64.1
            · exact ha
        · rw [if_neg hb, chk_pos (by simp; omega)]
          refine .inl ⟨_, rfl, ⟨k + 1, by simp, by omega, by simp only [List.length_append, List.length_cons, List.length_nil]; omega, fun x hx => ?_⟩, by simp only; omega⟩
          rcases List.mem_append.1 hx with h | h
          · exact hli x h
          · rw [List.mem_singleton.1 h]; exact e64.2
      · rw [if_neg (by simp only [decide_eq_true_eq]; omega)]
        exact .inr ⟨_, rfl, hli, by omega⟩)
  rw [hm]
  simp only [Option.bind_some]
  unfold law03_ColumnFar_x2_0 law03_ColumnFar_b1
  have hA : ∀ w : Nat, w < 4 → column_As (w : Int) m = some (asL w m) ∧ column_ReadInts (asL w m) = some (m, 0) := fun w hw => ⟨As_col hw (by omega) hmi, ReadInts_as hw (by omega) hmi⟩
  have := loop_to (b := fun s : Int => law03_ColumnFar_l1 m s) (fun k => (k : Int)) (t := Sum.inl ()) 4 (fun w hw => by
    obtain ⟨h1, h3⟩ := hA w hw
    show law03_ColumnFar_l1 m (w : Int) = _
    generalize asL w m = p at h1 h3
    unfold law03_ColumnFar_l1
    rw [if_pos (by simp only [decide_eq_true_eq]; omega), h1]
    simp only [Option.bind_some]
    rw [h3]
    simp only [Option.bind_some]
    rw [if_neg (by simp), lints_eq m (by omega)]
    simp only [Option.bind_some]
    unfold law03_ColumnFar_j2
    rw [if_neg (by simp), lt_, u8w (by omega) (by omega)]
    rfl) (by
    show law03_ColumnFar_l1 m ((4 : Nat) : Int) = _
    unfold law03_ColumnFar_l1
    rw [if_neg (by decide)])
  rw [show (0 : Int) = ((0 : Nat) : Int) from rfl, this]
  rfl

theorem ColumnPacked (a0 : Int) (a1 : List Int) (h0 : gI .i64 a0) (h1 : gL 1 (gI .u8) a1) : law03_ColumnPacked a0 a1 = some true := by
  have ha := gI64 h0
  have hB := gl8 h1
  have hj : law03_ColumnPacked_j1 a0 a1 true = some true := by
    unfold law03_ColumnPacked_j1; rw [if_pos rfl, awake3_eq]; rfl
  unfold law03_ColumnPacked
  rw [awake3_eq]
  simp only [Option.bind_some]
  rw [if_neg (by simp)]
  by_cases hl : 200 < a1.length
  · rw [if_pos (by simp only [decide_eq_true_eq]; omega), hj]
  rw [if_neg (by simp only [decide_eq_true_eq]; omega)]
  by_cases hn : a1.length = 0
  · rw [show ((a1.length : Int) == 0) = true by rw [hn]; rfl, hj]
  rw [show ((a1.length : Int) == 0) = false by simp; intro h; rw [h] at hn; exact hn rfl]
  unfold law03_ColumnPacked_j1
  rw [if_neg (by simp)]
  unfold i64 at ha
  obtain ⟨lo, hlo⟩ : ∃ lo, lo = a0.tdiv 2 := ⟨_, rfl⟩
  have hlo2 : -4611686018427387904 ≤ lo ∧ lo ≤ 4611686018427387903 := by
    rw [hlo]
    rcases (show 0 ≤ a0 ∨ a0 < 0 by omega) with h | h
    · rw [Int.tdiv_eq_ediv_of_nonneg h]; omega
    · have : a0.tdiv 2 = -((-a0) / 2) := by rw [← Int.tdiv_eq_ediv_of_nonneg (by omega : 0 ≤ -a0), Int.neg_tdiv, Int.neg_neg]
      rw [this]; omega
  obtain ⟨m, hm, hmi, hml⟩ := loop_good (b := fun s : List Int × Int => law03_ColumnPacked_l1 a0 a1 s.1 s.2) (s := ([], 0))
    (fun s => ∃ k : Nat, s.2 = k ∧ k ≤ a1.length ∧ s.1.length = k ∧ ∀ x ∈ s.1, lo ≤ x ∧ x ≤ lo + 7) (fun s => ((a1.length : Int) - s.2).toNat) (fun m => (∀ x ∈ m, lo ≤ x ∧ x ≤ lo + 7) ∧ m.length = a1.length)
    ⟨0, rfl, by omega, rfl, fun x hx => by cases hx⟩ (by
      rintro ⟨l, q⟩ ⟨k, hq, hk, hll, hli⟩
      simp only at hq hll hli
      subst hq
      show (∃ s', law03_ColumnPacked_l1 a0 a1 l (k : Int) = some (.inl s') ∧ _) ∨ ∃ t, law03_ColumnPacked_l1 a0 a1 l (k : Int) = some (.inr t) ∧ _
      unfold law03_ColumnPacked_l1
      by_cases hlt : k < a1.length
      · have hx := List.getElem?_eq_getElem hlt
        have hbx := hB _ (List.mem_of_getElem? hx)
        rw [if_pos (by simp only [decide_eq_true_eq]; omega), lt_, ← hlo, w64 (n := lo) (by omega) (by omega), at_int rfl hx]
        simp only [Option.bind_some, lt_]
        rw [IntWalk.rem_in _ _ hbx.1, w64 (n := a1[k] % 8) (by omega) (by omega), w64 (n := lo + a1[k] % 8) (by omega) (by omega), chk_pos (by simp; omega), w64 (by omega) (by omega)]
        refine .inl ⟨_, rfl, ⟨k + 1, by simp, by omega, by simp [hll], fun x hx => ?_⟩, by simp only; omega⟩
        rcases List.mem_append.1 hx with h | h
        · exact hli x h
        · rw [List.mem_singleton.1 h]; omega
      · rw [if_neg (by simp only [decide_eq_true_eq]; omega)]
        exact .inr ⟨_, rfl, hli, by omega⟩)
  rw [hm]
  simp only [Option.bind_some]
  unfold law03_ColumnPacked_x1_0 law03_ColumnPacked_b1
  have hmi64 : I64 m := fun x hx => by have := hmi x hx; unfold i64; omega
  have hsz : (asL 3 m).length ≤ 15 + (3 * a1.length + 7) / 8 := by
    have hu : (uv m.length).length ≤ 2 := uv_length 1 _ (by omega)
    unfold asL
    simp only [List.length_cons, List.length_append, body]
    cases m with
    | nil => simp only [List.length_nil] at hml; omega
    | cons x m =>
      have hlo' := mn_i64 hmi64
      have hle := mn_all (x := x) (l := m)
      have hz := uv_length64 (zz_lt hlo')
      have hmn : lo ≤ mn x m := by
        rcases mn_mem m x with e | e
        · rw [e]; exact (hmi x List.mem_cons_self).1
        · exact (hmi _ (List.mem_cons_of_mem _ e)).1
      have hw : wdt (ds (mn x m) (x :: m)) ≤ 3 := by
        refine wdt_le 3 _ _ rfl fun d hd => ?_
        obtain ⟨y, hy, rfl⟩ := List.mem_map.1 hd
        have := hmi y hy
        have := hle y hy
        exact bl_le 3 _ (by omega)
      have := Nat.mul_le_mul_left (x :: m).length hw
      simp only [pk, List.length_append, List.length_singleton, ofN_length, by_length]
      generalize (x :: m).length = n at *
      omega
  have hA : column_As 3 m = some (asL 3 m) := As_col (w := 3) (by decide) (by omega) hmi64
  have hR : column_ReadInts (asL 3 m) = some (m, 0) := ReadInts_as (w := 3) (by decide) (by omega) hmi64
  generalize asL 3 m = p at hA hR hsz
  rw [hA]
  simp only [Option.bind_some]
  rw [hR]
  simp only [Option.bind_some]
  rw [if_pos (by rfl), lints_eq m (by omega)]
  simp only [Option.bind_some, lt_]
  rw [if_pos trivial, w64 (n := 3 * (a1.length : Int)) (by omega) (by omega), w64 (n := 3 * (a1.length : Int) + 7) (by omega) (by omega), show (3 * (a1.length : Int) + 7).tdiv 8 = (((3 * a1.length + 7) / 8 : Nat) : Int) by rw [show 3 * (a1.length : Int) + 7 = ((3 * a1.length + 7 : Nat) : Int) by omega]; rfl,
    w64 (n := (((3 * a1.length + 7) / 8 : Nat) : Int)) (by omega) (by omega), w64 (by omega) (by omega)]
  rw [show decide ((p.length : Int) ≤ 15 + (((3 * a1.length + 7) / 8 : Nat) : Int)) = true by simp only [decide_eq_true_eq]; omega]
end Go.Proofs.Ythokgnonmcgkcaa.P
