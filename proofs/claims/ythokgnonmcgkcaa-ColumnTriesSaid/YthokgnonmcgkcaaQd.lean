/- Bits laid side by side, as one number; no program in sight. -/
import Derived.Test.YthokgnonmcgkcaaQa
namespace Go.Proofs.Ythokgnonmcgkcaa.P
open Go Go.RowKit Go.Proofs.Ythokgnonmcgkcaa.E
set_option linter.unusedVariables false

/-- how many bits a number has -/
def bl (n : Nat) : Nat := if h : n = 0 then 0 else bl (n / 2) + 1
termination_by n
decreasing_by omega
theorem bl_zero : bl 0 = 0 := by rw [bl, dif_pos rfl]
theorem bl_pos {n : Nat} (h : 0 < n) : bl n = bl (n / 2) + 1 := by rw [bl, dif_neg (by omega)]
theorem bl_lt (n : Nat) : n < 2 ^ bl n := by
  induction n using Nat.strongRecOn with
  | _ n ih =>
    rcases Nat.eq_zero_or_pos n with rfl | h
    · rw [bl_zero]; decide
    · rw [bl_pos h, Nat.pow_succ]
      have := ih (n / 2) (by omega)
      omega
theorem bl_le : ∀ (k n : Nat), n < 2 ^ k → bl n ≤ k
  | 0, n, h => by have : n = 0 := by simpa using h
                  rw [this, bl_zero]; exact Nat.le_refl _
  | k + 1, n, h => by
    rcases Nat.eq_zero_or_pos n with rfl | hp
    · rw [bl_zero]; omega
    · rw [bl_pos hp]
      have := bl_le k (n / 2) (by rw [Nat.pow_succ] at h; omega)
      omega
theorem bl_shift : ∀ (k n : Nat), 2 ^ k ≤ n → bl n = k + bl (n / 2 ^ k)
  | 0, n, _ => by simp
  | k + 1, n, h => by
    have hp : 0 < 2 ^ k := Nat.two_pow_pos k
    rw [Nat.pow_succ] at h
    rw [bl_pos (by omega), bl_shift k (n / 2) (by omega), Nat.div_div_eq_div_mul, Nat.pow_succ, Nat.mul_comm (2 ^ k) 2]
    omega

/-- numbers of w bits each, as one -/
def V (w : Nat) : List Nat → Nat
  | [] => 0
  | d :: ds => d + 2 ^ w * V w ds
def Lt (w : Nat) (ds : List Nat) : Prop := ∀ d ∈ ds, d < 2 ^ w
theorem Lt.tail {w d : Nat} {ds : List Nat} (h : Lt w (d :: ds)) : d < 2 ^ w ∧ Lt w ds := ⟨h d List.mem_cons_self, fun x hx => h x (List.mem_cons_of_mem _ hx)⟩
theorem V_lt {w : Nat} : ∀ {ds : List Nat}, Lt w ds → V w ds < 2 ^ (ds.length * w)
  | [], _ => by simp [V]
  | d :: ds, h => by
    have h1 := h.tail.1
    have h2 := V_lt h.tail.2
    simp only [V, List.length_cons]
    rw [Nat.add_mul, Nat.one_mul, Nat.pow_add, Nat.mul_comm (2 ^ (ds.length * w))]
    have : 2 ^ w * V w ds + 2 ^ w ≤ 2 ^ w * 2 ^ (ds.length * w) := by
      rw [← Nat.mul_succ]; exact Nat.mul_le_mul_left _ h2
    omega
theorem V_drop {w : Nat} : ∀ {ds : List Nat}, Lt w ds → ∀ i, V w ds / 2 ^ (i * w) = V w (ds.drop i)
  | ds, _, 0 => by simp
  | [], _, i + 1 => by simp [V]
  | d :: ds, h, i + 1 => by
    rw [List.drop_succ_cons, ← V_drop h.tail.2 i, Nat.add_mul, Nat.one_mul, Nat.add_comm (i * w), Nat.pow_add, ← Nat.div_div_eq_div_mul]
    congr 1
    simp only [V]
    rw [Nat.add_mul_div_left _ _ (Nat.two_pow_pos w), Nat.div_eq_of_lt h.tail.1, Nat.zero_add]
theorem V_get {w : Nat} {ds : List Nat} (h : Lt w ds) {i d : Nat} (hd : ds[i]? = some d) : V w ds / 2 ^ (i * w) % 2 ^ w = d := by
  rw [V_drop h, List.drop_eq_getElem_cons (List.getElem?_eq_some_iff.1 hd).1, (List.getElem?_eq_some_iff.1 hd).2, V, Nat.add_mul_mod_self_left]
  exact Nat.mod_eq_of_lt (h d (List.mem_of_getElem? hd))

/-- a number's bytes -/
def by_ (m v : Nat) : List Nat := (List.range m).map fun j => v / 2 ^ (8 * j) % 256
theorem by_length (m v : Nat) : (by_ m v).length = m := by simp [by_]
theorem by_get {m v j : Nat} (h : j < m) : (by_ m v)[j]? = some (v / 2 ^ (8 * j) % 256) := by
  unfold by_
  rw [List.getElem?_map, List.getElem?_range h]; rfl
theorem by_succ (m v : Nat) : by_ (m + 1) v = by_ m v ++ [v / 2 ^ (8 * m) % 256] := by
  unfold by_
  rw [List.range_succ, List.map_append]; rfl
theorem by_lt (m v : Nat) : Lt 8 (by_ m v) := by
  intro d hd
  unfold by_ at hd
  obtain ⟨j, _, rfl⟩ := List.mem_map.1 hd
  exact Nat.mod_lt _ (by decide)
theorem by_ext {xs ys : List Nat} (hl : xs.length = ys.length) (h : ∀ j : Nat, j < xs.length → xs[j]? = ys[j]?) : xs = ys := by
  apply List.ext_getElem? fun j => ?_
  rcases Nat.lt_or_ge j xs.length with hj | hj
  · exact h j hj
  · rw [List.getElem?_eq_none hj, List.getElem?_eq_none (by omega)]
theorem V_by : ∀ (m v : Nat), v < 2 ^ (8 * m) → V 8 (by_ m v) = v
  | 0, v, h => by have : v = 0 := by simpa using h
                  subst this; rfl
  | m + 1, v, h => by
    have e : by_ (m + 1) v = v % 256 :: by_ m (v / 256) := by
      refine by_ext (by simp [by_length]) fun j hj => ?_
      rw [by_length] at hj
      rw [by_get hj]
      cases j with
      | zero => simp
      | succ j =>
        rw [List.getElem?_cons_succ, by_get (by omega), show 8 * (j + 1) = 8 + 8 * j by omega, Nat.pow_add, Nat.div_div_eq_div_mul]
    rw [e, V, V_by m (v / 256) (by rw [show 8 * (m + 1) = 8 + 8 * m by omega, Nat.pow_add] at h; exact Nat.div_lt_of_lt_mul h)]
    exact Nat.mod_add_div v 256
theorem by_V : ∀ {ds : List Nat}, Lt 8 ds → by_ ds.length (V 8 ds) = ds := fun {ds} h => by
  refine by_ext (by rw [by_length]) fun j hj => ?_
  rw [by_length] at hj
  obtain ⟨d, hd⟩ : ∃ d, ds[j]? = some d := ⟨_, List.getElem?_eq_getElem hj⟩
  rw [by_get hj, hd, Nat.mul_comm 8 j]
  exact congrArg some (V_get h hd)

/-- one bit more -/
def bt (v i : Nat) : Nat := v / 2 ^ i % 2
theorem bt_lt (v i : Nat) : bt v i < 2 := Nat.mod_lt _ (by decide)
theorem mod_succ (v i : Nat) : v % 2 ^ (i + 1) = v % 2 ^ i + bt v i * 2 ^ i := by
  rw [Nat.pow_succ, Nat.mod_mul, bt, Nat.mul_comm]
/-- a bit of one of several numbers -/
theorem bt_V {w : Nat} {ds : List Nat} (h : Lt w ds) {i k d : Nat} (hd : ds[i]? = some d) (hk : k < w) : bt (V w ds) (i * w + k) = bt d k := by
  unfold bt
  have hm := V_get h hd
  rw [Nat.pow_add, ← Nat.div_div_eq_div_mul]
  conv => rhs; rw [← hm]
  obtain ⟨x, hx⟩ : ∃ x, x = V w ds / 2 ^ (i * w) := ⟨_, rfl⟩
  rw [← hx]
  obtain ⟨j, rfl⟩ : ∃ j, w = k + (j + 1) := ⟨w - k - 1, by omega⟩
  rw [Nat.pow_add, Nat.mod_mul_right_div_self, Nat.pow_succ, Nat.mul_comm (2 ^ j) 2, Nat.mod_mul_right_mod]
/-- which of the numbers turn by one bit more: one alone -/
theorem part_same (v i q w : Nat) (hw : 0 < w) (hq : q ≠ i / w) : v % 2 ^ (i + 1) / 2 ^ (q * w) % 2 ^ w = v % 2 ^ i / 2 ^ (q * w) % 2 ^ w := by
  rw [mod_succ]
  rcases Nat.lt_or_ge (i / w) q with hlt | hge
  · -- above
    have h1 : (i / w + 1) * w ≤ q * w := Nat.mul_le_mul_right _ hlt
    have h2 : i < (i / w + 1) * w := by have h := Nat.div_add_mod i w; have h' := Nat.mod_lt i hw; rw [Nat.add_mul, Nat.one_mul, Nat.mul_comm (i / w)]; omega
    have h3 : 2 ^ (i + 1) ≤ 2 ^ (q * w) := Nat.pow_le_pow_right (by decide) (by omega)
    have h4 : v % 2 ^ i < 2 ^ i := Nat.mod_lt _ (Nat.two_pow_pos i)
    have h5 := bt_lt v i
    have h6 : bt v i * 2 ^ i ≤ 1 * 2 ^ i := Nat.mul_le_mul_right _ (by omega)
    rw [Nat.pow_succ] at h3
    rw [Nat.div_eq_of_lt (by omega), Nat.div_eq_of_lt (by omega)]
  · -- below
    have hlt : q < i / w := by omega
    have h1 : (q + 1) * w ≤ i / w * w := Nat.mul_le_mul_right _ hlt
    have h2 : i / w * w ≤ i := Nat.div_mul_le_self i w
    obtain ⟨j, rfl⟩ : ∃ j, i = q * w + w + j := ⟨i - (q * w + w), by rw [Nat.add_mul] at h1; omega⟩
    have e : bt v (q * w + w + j) * 2 ^ (q * w + w + j) = 2 ^ (q * w) * (2 ^ w * (2 ^ j * bt v (q * w + w + j))) := by
      rw [Nat.pow_add, Nat.pow_add]; ac_rfl
    rw [e, Nat.add_mul_div_left _ _ (Nat.two_pow_pos _), Nat.add_mul_mod_self_left]
theorem part_new (v i w : Nat) (hw : 0 < w) : v % 2 ^ (i + 1) / 2 ^ (i / w * w) % 2 ^ w = v % 2 ^ i / 2 ^ (i / w * w) % 2 ^ w + bt v i * 2 ^ (i % w) ∧ v % 2 ^ i / 2 ^ (i / w * w) % 2 ^ w < 2 ^ (i % w) := by
  obtain ⟨q, hq⟩ : ∃ q, q = i / w * w := ⟨_, rfl⟩
  obtain ⟨k, hk⟩ : ∃ k, k = i % w := ⟨_, rfl⟩
  have hi : i = q + k := by rw [hq, hk, Nat.mul_comm]; exact (Nat.div_add_mod i w).symm
  have hkw : k < w := by rw [hk]; exact Nat.mod_lt _ hw
  rw [← hq, ← hk, mod_succ, hi]
  have hlt : v % 2 ^ (q + k) / 2 ^ q < 2 ^ k := Nat.div_lt_of_lt_mul (by rw [← Nat.pow_add]; exact Nat.mod_lt _ (Nat.two_pow_pos _))
  have hkk : 2 ^ (k + 1) ≤ 2 ^ w := Nat.pow_le_pow_right (by decide) hkw
  rw [Nat.pow_succ] at hkk
  have hb := bt_lt v (q + k)
  have hb2 : bt v (q + k) * 2 ^ k ≤ 1 * 2 ^ k := Nat.mul_le_mul_right _ (by omega)
  have e : bt v (q + k) * 2 ^ (q + k) = 2 ^ q * (bt v (q + k) * 2 ^ k) := by rw [Nat.pow_add, ← Nat.mul_assoc, ← Nat.mul_assoc, Nat.mul_comm (bt v (q + k))]
  rw [e, Nat.add_mul_div_left _ _ (Nat.two_pow_pos q), Nat.mod_eq_of_lt (show v % 2 ^ (q + k) / 2 ^ q + bt v (q + k) * 2 ^ k < 2 ^ w by omega), Nat.mod_eq_of_lt (show v % 2 ^ (q + k) / 2 ^ q < 2 ^ w by omega)]
  exact ⟨rfl, hlt⟩
end Go.Proofs.Ythokgnonmcgkcaa.P
