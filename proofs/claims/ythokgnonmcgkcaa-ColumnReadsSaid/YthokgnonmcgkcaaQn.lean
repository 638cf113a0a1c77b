/- Packed whole numbers, as the document reads them; r03.ReadInts. -/
import Derived.Test.YthokgnonmcgkcaaQm
namespace Go.Proofs.Ythokgnonmcgkcaa.P
open Go Go.RowKit Go.Proofs.Ythokgnonmcgkcaa.E Go.Proofs.Ythokgnonmcgkcaa.M
set_option linter.unusedVariables false
set_option linter.unusedSectionVars false

theorem bt_div (v i j : Nat) : bt (v / 2 ^ i) j = bt v (i + j) := by
  unfold bt
  rw [Nat.div_div_eq_div_mul, ← Nat.pow_add]

section
variable {B xs : List Int} {p : Nat} (hp : p ≤ B.length) (hx : B.drop p = xs) (hBs : Bs xs) (hB : B.length < 1099511627776) (hs : xs.length ≤ 32768)
include hp hx hBs hB hs

/-- one bit of the rest -/
theorem bit_at {i : Nat} (hi : i < 8 * xs.length) : ∃ b : Nat, at_ B ((p : Int) + ((i / 8 : Nat) : Int)) = some (b : Int) ∧ b < 256 ∧ bt b (i % 8) = bt (V 8 (toN xs)) i := by
  obtain ⟨b, h1, h2, h3⟩ := toN_get hBs (j := i / 8) (by omega)
  refine ⟨b, at_int (n := p + i / 8) (by omega) ?_, h3, ?_⟩
  · rw [← hx, List.getElem?_drop] at h1
    exact h1
  · have := bt_V (toN_lt hBs) h2 (k := i % 8) (by omega)
    rw [show i / 8 * 8 + i % 8 = i by omega] at this
    exact this.symm

theorem bits_loop (y : Int × S26) (hy : y.2 = ⟨B, (p : Int)⟩) (w i0 : Nat) (hw : w ≤ 64) (hi : i0 + w ≤ 8 * xs.length) :
    loop (fun s : Int × Int × Int => r03_Reader_Ints_l7 y (w : Int) s.1 s.2.1 s.2.2) ((i0 : Int), 0, 0) = some (((i0 + w : Nat) : Int), ((V 8 (toN xs) / 2 ^ i0 % 2 ^ w : Nat) : Int)) := by
  have := loop_to (b := fun s : Int × Int × Int => r03_Reader_Ints_l7 y (w : Int) s.1 s.2.1 s.2.2)
    (fun k => (((i0 + k : Nat) : Int), ((V 8 (toN xs) / 2 ^ i0 % 2 ^ k : Nat) : Int), (k : Int))) (t := (((i0 + w : Nat) : Int), ((V 8 (toN xs) / 2 ^ i0 % 2 ^ w : Nat) : Int))) w (fun k hk => by
    obtain ⟨b, h1, h2, h3⟩ := bit_at hp hx hBs hB hs (i := i0 + k) (by omega)
    have hms := mod_succ (V 8 (toN xs) / 2 ^ i0) k
    rw [bt_div] at hms
    have hb := bt_lt (V 8 (toN xs)) (i0 + k)
    have hlt : V 8 (toN xs) / 2 ^ i0 % 2 ^ (k + 1) < 2 ^ (k + 1) := Nat.mod_lt _ (Nat.two_pow_pos _)
    have hpw : 2 ^ (k + 1) ≤ 2 ^ 64 := Nat.pow_le_pow_right (by decide) (by omega)
    have e0 : b / 2 ^ ((i0 + k) % 8) ≤ b := Nat.div_le_self _ _
    have e1 : ishr .u8 (b : Int) (((i0 + k) % 8 : Nat) : Int) = ((b / 2 ^ ((i0 + k) % 8) : Nat) : Int) := ishr_nat (k := .u8) b ((i0 + k) % 8) (by show _ ≤ 8; omega)
    have e2 : (((b / 2 ^ ((i0 + k) % 8) : Nat) : Int)).tmod 2 = ((bt (V 8 (toN xs)) (i0 + k) : Nat) : Int) := by rw [← h3]; rfl
    show r03_Reader_Ints_l7 y (w : Int) ((i0 + k : Nat) : Int) ((V 8 (toN xs) / 2 ^ i0 % 2 ^ k : Nat) : Int) (k : Int) = some (.inl (((i0 + (k + 1) : Nat) : Int), ((V 8 (toN xs) / 2 ^ i0 % 2 ^ (k + 1) : Nat) : Int), ((k + 1 : Nat) : Int)))
    generalize V 8 (toN xs) / 2 ^ i0 % 2 ^ (k + 1) = vn at hms hlt ⊢
    generalize V 8 (toN xs) / 2 ^ i0 % 2 ^ k = vo at hms ⊢
    generalize bt (V 8 (toN xs)) (i0 + k) = bb at *
    have hbk : bb * 2 ^ k % 18446744073709551616 = bb * 2 ^ k := Nat.mod_eq_of_lt (by omega)
    unfold r03_Reader_Ints_l7
    rw [if_pos (by simp only [decide_eq_true_eq]; omega)]
    simp only [lt_, hy]
    rw [show (((i0 + k : Nat) : Int)).tdiv 8 = (((i0 + k) / 8 : Nat) : Int) from rfl, show (((i0 + k : Nat) : Int)).tmod 8 = (((i0 + k) % 8 : Nat) : Int) from rfl,
      w64 (n := (((i0 + k) / 8 : Nat) : Int)) (by omega) (by omega), w64 (n := (p : Int) + (((i0 + k) / 8 : Nat) : Int)) (by omega) (by omega), h1]
    simp only [Option.bind_some]
    rw [chk_pos (by omega), e1, e2, u64w (n := (bb : Int)) (by omega) (by omega), chk_pos (by omega), ishl_u64 _ _ (by omega), hbk, ← Int.natCast_add, ← hms, u64w (n := (vn : Int)) (by omega) (by omega),
      w64 (n := ((i0 + k : Nat) : Int) + 1) (by omega) (by omega), w64 (n := (k : Int) + 1) (by omega) (by omega)]
    rfl) (by
    show r03_Reader_Ints_l7 y (w : Int) ((i0 + w : Nat) : Int) ((V 8 (toN xs) / 2 ^ i0 % 2 ^ w : Nat) : Int) (w : Int) = _
    unfold r03_Reader_Ints_l7
    rw [if_neg (by simp)])
  simpa [Nat.mod_one] using this

theorem vals_loop (z y : Int × S26) (hy : y.2 = ⟨B, (p : Int)⟩) (n w : Nat) (hn : n ≤ 4096) (hw : w ≤ 64) (hi : n * w ≤ 8 * xs.length) :
    loop (fun s : List Int × Int × Int => r03_Reader_Ints_l6 (n : Int) z y (w : Int) s.1 s.2.1 s.2.2) ([], 0, 0) = some ((part n w (V 8 (toN xs))).map fun x => IntKind.i64.wrap (x + z.1), ((n * w : Nat) : Int)) := by
  have := loop_to (b := fun s : List Int × Int × Int => r03_Reader_Ints_l6 (n : Int) z y (w : Int) s.1 s.2.1 s.2.2)
    (fun k => ((part k w (V 8 (toN xs))).map fun x => IntKind.i64.wrap (x + z.1), ((k * w : Nat) : Int), (k : Int))) (t := ((part n w (V 8 (toN xs))).map fun x => IntKind.i64.wrap (x + z.1), ((n * w : Nat) : Int))) n (fun k hk => by
    have hkw : k * w + w ≤ n * w := by
      have : (k + 1) * w ≤ n * w := Nat.mul_le_mul_right _ hk
      rwa [Nat.add_mul, Nat.one_mul] at this
    have hkn : n * w ≤ 4096 * 64 := Nat.mul_le_mul hn hw
    have hb := bits_loop hp hx hBs hB hs y hy w (k * w) hw (by omega)
    have hpart : part (k + 1) w (V 8 (toN xs)) = part k w (V 8 (toN xs)) ++ [IntKind.i64.wrap ((V 8 (toN xs) / 2 ^ (k * w) % 2 ^ w : Nat) : Int)] := by
      unfold part
      rw [List.range_succ, List.map_append]; rfl
    have hlen : ((part k w (V 8 (toN xs))).map fun x => IntKind.i64.wrap (x + z.1)).length = k := by rw [List.length_map, part_length]
    show r03_Reader_Ints_l6 (n : Int) z y (w : Int) ((part k w (V 8 (toN xs))).map fun x => IntKind.i64.wrap (x + z.1)) ((k * w : Nat) : Int) (k : Int) = some (.inl ((part (k + 1) w (V 8 (toN xs))).map fun x => IntKind.i64.wrap (x + z.1), (((k + 1) * w : Nat) : Int), ((k + 1 : Nat) : Int)))
    rw [hpart, List.map_append, Nat.add_mul, Nat.one_mul]
    unfold r03_Reader_Ints_l6
    rw [if_pos (by simp only [decide_eq_true_eq]; omega), hb]
    simp only [Option.bind_some]
    unfold r03_Reader_Ints_x7_3 r03_Reader_Ints_b8
    simp only [lt_]
    rw [chk_pos (by rw [hlen]; simp; omega), w64 (n := (k : Int) + 1) (by omega) (by omega)]
    rfl) (by
    show r03_Reader_Ints_l6 (n : Int) z y (w : Int) _ ((n * w : Nat) : Int) (n : Int) = _
    unfold r03_Reader_Ints_l6
    rw [if_neg (by simp)])
  simpa [part] using this

theorem rest_loop (y : Int × S26) (hy : y.2 = ⟨B, (p : Int)⟩) (m : Nat) (hm : xs.length = (m + 7) / 8) :
    ∃ t, loop (fun s : Int => r03_Reader_Ints_l5 y s) (m : Int) = some t ∧ ((V 8 (toN xs) < 2 ^ m ∧ t = .inl ()) ∨ (¬ V 8 (toN xs) < 2 ^ m ∧ t = .inr ([], ⟨B, -1⟩))) := by
  have hL := V_lt (toN_lt hBs)
  have hvt : V 8 (toN xs) < 2 ^ (8 * xs.length) := by
    rw [show (toN xs).length = xs.length by simp [toN], Nat.mul_comm] at hL
    exact hL
  have hbit := fun (i : Nat) (hi : i < 8 * xs.length) => bit_at hp hx hBs hB hs (i := i) hi
  generalize V 8 (toN xs) = v at hbit hvt ⊢
  refine loop_good (b := fun s : Int => r03_Reader_Ints_l5 y s) (s := (m : Int))
    (fun s => ∃ i : Nat, s = (i : Int) ∧ m ≤ i ∧ i ≤ 8 * xs.length ∧ v % 2 ^ i < 2 ^ m) (fun s => (((8 * xs.length : Nat) : Int) - s).toNat)
    (fun t => (v < 2 ^ m ∧ t = .inl ()) ∨ (¬ v < 2 ^ m ∧ t = .inr ([], ⟨B, -1⟩))) ⟨m, rfl, Nat.le_refl _, by omega, Nat.mod_lt _ (Nat.two_pow_pos _)⟩ ?_
  rintro s ⟨i, rfl, hmi, hi, hv⟩
  unfold r03_Reader_Ints_l5
  simp only [lt_]
  rw [show ((i : Int)).tmod 8 = ((i % 8 : Nat) : Int) from rfl]
  by_cases h8 : i % 8 = 0
  · rw [h8, if_neg (by simp)]
    have hie : i = 8 * xs.length := by omega
    rw [hie, Nat.mod_eq_of_lt hvt] at hv
    exact .inr ⟨_, rfl, .inl ⟨hv, rfl⟩⟩
  · have hlt : i < 8 * xs.length := by omega
    obtain ⟨b, h1, h2, h3⟩ := hbit i hlt
    have e0 : b / 2 ^ (i % 8) ≤ b := Nat.div_le_self _ _
    have e1 : ishr .u8 (b : Int) ((i % 8 : Nat) : Int) = ((b / 2 ^ (i % 8) : Nat) : Int) := ishr_nat (k := .u8) b (i % 8) (by show _ ≤ 8; omega)
    have e2 : (((b / 2 ^ (i % 8) : Nat) : Int)).tmod 2 = ((bt v i : Nat) : Int) := by rw [← h3]; rfl
    have hms := mod_succ v i
    have hbl := bt_lt v i
    rw [if_pos (by simp only [bne_iff_ne, ne_eq]; omega), hy]
    rw [show ((i : Int)).tdiv 8 = ((i / 8 : Nat) : Int) from rfl, w64 (n := ((i / 8 : Nat) : Int)) (by omega) (by omega), w64 (n := (p : Int) + ((i / 8 : Nat) : Int)) (by omega) (by omega), h1]
    simp only [Option.bind_some]
    rw [chk_pos (by omega), e1, e2]
    by_cases hb0 : bt v i = 0
    · rw [hb0, if_neg (by decide), w64 (by omega) (by omega)]
      rw [hb0, Nat.zero_mul, Nat.add_zero] at hms
      exact .inl ⟨_, rfl, ⟨i + 1, rfl, by omega, by omega, by rw [hms]; exact hv⟩, by omega⟩
    · have hb1 : bt v i = 1 := by omega
      rw [hb1, if_pos (by decide)]
      refine .inr ⟨_, rfl, .inr ⟨fun hlt' => ?_, rfl⟩⟩
      have h1 : 2 ^ m ≤ 2 ^ i := Nat.pow_le_pow_right (by decide) (by omega)
      unfold bt at hb1
      rw [Nat.div_eq_of_lt (by omega)] at hb1
      cases hb1
end

theorem rInts_is {B : List Int} (hBs : Bs B) (hB : B.length < 1099511627776) {q : Nat} (hq : q ≤ B.length) : IsQ B (r03_Reader_Ints ⟨B, (q : Int)⟩) (pInts (B.drop q)) := by
  unfold r03_Reader_Ints pInts
  rcases (rByte_is B hq hB).cases with ⟨w, r, q1, h1, h2, h3, h4⟩ | ⟨h1, a, h2⟩
  · rw [h1, h2]
    obtain ⟨hw, hBr, hr⟩ := pB_bs (hBs.drop q) h1
    simp only [Option.bind_some]
    rw [← h4]
    rcases (rUint_is 4096 hBs hB h3).cases with ⟨n, r', q2, g1, g2, g3, g4⟩ | ⟨g1, a, g2⟩
    · rw [g1, g2]
      obtain ⟨p1, p2, p3⟩ := (pU_some g1).1
      obtain ⟨n, rfl⟩ : ∃ m : Nat, n = (m : Int) := ⟨n.toNat, by omega⟩
      simp only [Option.bind_some, lt_, Int.toNat_natCast]
      rw [w64 (by omega) (by omega), if_neg (by simp only [decide_eq_true_eq]; omega), ← g4]
      have hBr' := hBs.drop q2
      by_cases hw3 : w ≤ 3
      · rw [show decide (3 < w) = false by simp only [decide_eq_false_iff_not]; omega, if_pos hw3]
        unfold r03_Reader_Ints_j1 pBody
        rw [if_neg (by simp)]
        have conv : ∀ {t : List Int × Int × List Int} {p : Option (List Int × List Int)}, IsT B [] t p → IsQ B (some (t.2.2, (⟨t.1, t.2.1⟩ : S26))) p := by
          intro t p h
          cases p with
          | none => obtain ⟨a, rfl⟩ := h; exact ⟨a, rfl⟩
          | some x => obtain ⟨q', rfl, h1, h2⟩ := h; exact ⟨q', rfl, h1, h2⟩
        by_cases w0 : w = 0
        · rw [if_pos (by simpa using w0), if_pos w0]
          obtain ⟨t, ht, hm⟩ := rm_loop hBs hB n (by omega) n 0 q2 [] (by omega) rfl g3
          rw [show ((0 : Nat) : Int) = 0 from rfl] at ht
          rw [ht]
          exact conv hm
        rw [if_neg (by simpa using w0), if_neg w0]
        by_cases w1 : w = 1
        · rw [if_pos (by simpa using w1), if_pos w1]
          obtain ⟨t, ht, hm⟩ := rd_loop hBs hB n (by omega) n 0 q2 0 [] (by omega) rfl g3
          rw [show ((0 : Nat) : Int) = 0 from rfl] at ht
          rw [ht]
          exact conv hm
        rw [if_neg (by simpa using w1), if_neg w1]
        by_cases w2 : w = 2
        · rw [if_pos (by simpa using w2), if_pos w2]
          obtain ⟨t, ht, hm⟩ := rr_loop hBs hB n (by omega) n n q2 [] (by simp) (Nat.le_refl _) g3
          rw [ht]
          exact conv hm
        rw [if_neg (by simpa using w2), if_neg w2]
        by_cases hn0 : 0 < n
        · rw [if_neg (by simp; omega), if_pos hn0]
          unfold pP
          rcases (rInt_is hBs hB g3).cases with ⟨lo, r2, q3, k1, k2, k3, k4⟩ | ⟨k1, a, k2⟩
          · rw [k1, k2]
            simp only [Option.bind_some]
            rw [← k4]
            rcases (rByte_is B k3 hB).cases with ⟨wb, r3, q4, l1, l2, l3, l4⟩ | ⟨l1, a, l2⟩
            · rw [l1, l2]
              obtain ⟨hwb, hBr3, hr3⟩ := pB_bs (hBs.drop q3) l1
              obtain ⟨wd, rfl⟩ : ∃ m : Nat, wb = (m : Int) := ⟨wb.toNat, by omega⟩
              have hr3l : r3.length = B.length - q4 := by rw [← l4]; simp
              simp only [Option.bind_some, lt_, Int.toNat_natCast]
              rw [w64 (n := (wd : Int)) (by omega) (by omega), if_neg (by simp only [decide_eq_true_eq]; omega)]
              have hj : ∀ b, r03_Reader_Ints_j5 (n : Int) (lo, ⟨B, (q3 : Int)⟩) ((wd : Int), ⟨B, (q4 : Int)⟩) (wd : Int) true = b → b = some ([], ⟨B, -1⟩) := fun b h => h.symm
              by_cases hw64 : wd ≤ 64
              · have hnw : n * wd ≤ 4096 * 64 := Nat.mul_le_mul (by omega) hw64
                rw [if_neg (by simp only [decide_eq_true_eq]; omega), ← Int.natCast_mul, w64 (n := (B.length : Int) - (q4 : Int)) (by omega) (by omega), w64 (n := ((n * wd : Nat) : Int)) (by omega) (by omega), w64 (n := ((n * wd : Nat) : Int) + 7) (by omega) (by omega),
                  show (((n * wd : Nat) : Int) + 7).tdiv 8 = (((n * wd + 7) / 8 : Nat) : Int) from rfl, w64 (by omega) (by omega)]
                by_cases hlen : r3.length = (n * wd + 7) / 8
                · rw [show ((B.length : Int) - (q4 : Int) != (((n * wd + 7) / 8 : Nat) : Int)) = false by simp only [bne_eq_false_iff_eq]; omega]
                  unfold r03_Reader_Ints_j5
                  rw [if_neg (by simp), vals_loop l3 l4 hBr3 hB (by omega) _ _ rfl n wd (by omega) hw64 (by omega)]
                  simp only [Option.bind_some]
                  unfold r03_Reader_Ints_x6_1 r03_Reader_Ints_b6
                  obtain ⟨t, ht, hc⟩ := rest_loop l3 l4 hBr3 hB (by omega) ((wd : Int), (⟨B, (q4 : Int)⟩ : S26)) rfl (n * wd) hlen
                  rw [ht]
                  rcases hc with ⟨hv, rfl⟩ | ⟨hv, rfl⟩
                  · rw [if_pos ⟨by omega, hlen, hv⟩]
                    exact ⟨B.length, rfl, Nat.le_refl _, List.drop_length⟩
                  · rw [if_neg (fun c => hv c.2.2)]
                    exact ⟨_, rfl⟩
                · rw [show ((B.length : Int) - (q4 : Int) != (((n * wd + 7) / 8 : Nat) : Int)) = true by simp only [bne_iff_ne, ne_eq]; omega, if_neg (fun c => hlen c.2.1)]
                  exact ⟨_, rfl⟩
              · rw [if_pos (by simp only [decide_eq_true_eq]; omega), if_neg (fun c => hw64 (by omega))]
                exact ⟨_, rfl⟩
            · rw [l1, l2]
              simp only [Option.bind_some, lt_]
              rw [if_pos (by rfl)]
              exact ⟨_, rfl⟩
          · rw [k1, k2]
            simp only [Option.bind_some]
            rw [rByte_no]
            simp only [Option.bind_some, lt_]
            rw [if_pos (by rfl)]
            exact ⟨_, rfl⟩
        · have hn : n = 0 := by omega
          subst hn
          rw [if_pos (by rfl), if_neg (by omega)]
          exact ⟨q2, rfl, g3, rfl⟩
      · rw [show decide (3 < w) = true by simp only [decide_eq_true_eq]; omega, if_neg hw3]
        exact ⟨_, rfl⟩
    · rw [g1, g2]
      simp only [Option.bind_some, lt_]
      rw [if_pos (by rfl)]
      split
      · exact ⟨_, rfl⟩
      · exact ⟨_, rfl⟩
  · rw [h1, h2]
    simp only [Option.bind_some]
    rw [rUint_no]
    simp only [Option.bind_some, lt_]
    rw [if_pos (by rfl)]
    exact ⟨_, rfl⟩

/-- a place at the end, and nothing left -/
theorem at_end {B r : List Int} {q : Nat} (hq : q ≤ B.length) (h : B.drop q = r) : ((q : Int) != (B.length : Int)) = !r.isEmpty := by
  subst h
  rw [Bool.eq_iff_iff]
  simp only [bne_iff_ne, ne_eq, Bool.not_eq_true', List.isEmpty_eq_false_iff, List.drop_eq_nil_iff]
  omega

theorem ReadInts_ref {xs : List Int} (hBs : Bs xs) (hB : xs.length < 1099511627776) : r03_ReadInts xs = some (match readL xs with | some l => (l, true) | none => ([], false)) := by
  unfold r03_ReadInts readL
  have h := rInts_is hBs hB (q := 0) (by omega)
  rw [List.drop_zero, show ((0 : Nat) : Int) = 0 from rfl] at h
  rcases h.cases with ⟨l, r, q, h1, h2, h3, h4⟩ | ⟨h1, a, h2⟩
  · rw [h1, h2]
    simp only [Option.bind_some]
    rw [at_end h3 h4]
    cases r with
    | nil => rfl
    | cons => rfl
  · rw [h1, h2]
    simp only [Option.bind_some]
    rw [if_pos (by simp only [bne_iff_ne, ne_eq]; omega)]
end Go.Proofs.Ythokgnonmcgkcaa.P
