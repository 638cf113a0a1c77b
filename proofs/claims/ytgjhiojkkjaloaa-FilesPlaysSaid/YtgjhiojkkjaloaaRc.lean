/- Where a name stands among files that rise by their names. -/
import Derived.Test.YtgjhiojkkjaloaaRa
import Derived.Test.YtgjhiojkkjaloaaDb
import Derived.Sort.Walk0
namespace Go.Proofs.Ytgjhiojkkjaloaa.P
open Go Go.RowKit Go.Proofs.Ytgjhiojkkjaloaa.E Go.Proofs.Ytgjhiojkkjaloaa.M
set_option linter.unusedVariables false

theorem bl_irr (a : List UInt8) : Op.bytesLess a a = false := by rw [bytesLess_eq]; simp [List.lt_irrefl]
theorem bl_trans {a b c : List UInt8} (h1 : Op.bytesLess a b = true) (h2 : Op.bytesLess b c = true) : Op.bytesLess a c = true := by
  rw [bytesLess_eq] at *
  simp only [decide_eq_true_eq] at *
  exact List.lt_trans h1 h2
theorem bl_tot {a b : List UInt8} (h : Op.bytesLess a b = false) (h' : Op.bytesLess b a = false) : a = b := by
  rw [bytesLess_eq] at *
  simp only [decide_eq_false_iff_not] at *
  exact List.le_antisymm (List.not_lt.1 h') (List.not_lt.1 h)

def Rise (l : List S73) : Prop := l.Pairwise fun x y => Op.bytesLess x.f0 y.f0 = true
def pos (l : List S73) (n : List UInt8) : Nat := (l.takeWhile fun x => Op.bytesLess x.f0 n).length
theorem pos_le (l : List S73) (n : List UInt8) : pos l n ≤ l.length := (List.takeWhile_sublist _).length_le
theorem pos_iff : ∀ {l : List S73} (hl : Rise l) (n : List UInt8) {h : Nat} {x : S73}, l[h]? = some x → (Op.bytesLess x.f0 n = true ↔ h < pos l n)
  | [], _, n, h, x, hx => by simp at hx
  | y :: l, hl, n, h, x, hx => by
    obtain ⟨hy, hl'⟩ := List.pairwise_cons.1 hl
    unfold pos
    rw [List.takeWhile_cons]
    cases hyn : Op.bytesLess y.f0 n with
    | true =>
      rw [if_pos rfl, List.length_cons]
      cases h with
      | zero => cases hx; simp [hyn]
      | succ h =>
        have := pos_iff hl' n (h := h) (x := x) (by simpa using hx)
        unfold pos at this
        rw [this]; omega
    | false =>
      rw [if_neg (by simp), List.length_nil]
      cases h with
      | zero => cases hx; simp [hyn]
      | succ h =>
        have hxm : x ∈ l := List.mem_of_getElem? (by simpa using hx)
        constructor
        · intro hxn
          have := bl_trans (hy x hxm) hxn
          rw [hyn] at this
          cases this
        · intro h; omega

theorem find1_eq (x : S73) (n : List UInt8) : files_Store_find_1 x n = some (if Op.bytesLess x.f0 n = true then -1 else if x.f0 = n then 0 else 1) := by
  unfold files_Store_find_1
  cases h : Op.bytesLess x.f0 n with
  | true => rfl
  | false =>
    simp only [Bool.false_eq_true, if_false, Bool.false_or]
    by_cases e : x.f0 = n
    · simp [e]
    · simp [e]

/-- is a file of that name there -/
def has (l : List S73) (n : List UInt8) : Bool := match l[pos l n]? with
  | some x => x.f0 == n
  | none => false

theorem bsearch_eq (l : List S73) (hl : Rise l) (hlen : l.length < 1099511627776) (n : List UInt8) : slices_BinarySearchFunc_files_file_files_file_string l n = some ((pos l n : Int), has l n) := by
  unfold slices_BinarySearchFunc_files_file_files_file_string
  have hp := pos_le l n
  obtain ⟨y, hy, hm⟩ := loop_good (b := fun s : Int × Int => slices_BinarySearchFunc_files_file_files_file_string_l1 l n s.1 s.2) (s := (0, (l.length : Int)))
    (fun s => ∃ i j : Nat, s = ((i : Int), (j : Int)) ∧ i ≤ pos l n ∧ pos l n ≤ j ∧ j ≤ l.length) (fun s => (s.2 - s.1).toNat) (fun t => t = ((pos l n : Nat) : Int)) ⟨0, l.length, rfl, Nat.zero_le _, hp, Nat.le_refl _⟩ (by
    rintro s ⟨i, j, rfl, h1, h2, h3⟩
    show (∃ s', slices_BinarySearchFunc_files_file_files_file_string_l1 l n (i : Int) (j : Int) = some (.inl s') ∧ _) ∨ ∃ t, slices_BinarySearchFunc_files_file_files_file_string_l1 l n (i : Int) (j : Int) = some (.inr t) ∧ _
    unfold slices_BinarySearchFunc_files_file_files_file_string_l1
    by_cases hij : i < j
    · have hx := List.getElem?_eq_getElem (l := l) (i := (i + j) / 2) (by omega)
      have hpi := pos_iff hl n hx
      have e1 : ishr .u64 (((i + j : Nat)) : Int) 1 = (((i + j) / 2 : Nat) : Int) := ishr_nat (k := .u64) (i + j) 1 (by decide)
      rw [if_pos (by simp only [decide_eq_true_eq]; omega)]
      simp only [lt_]
      rw [w64 (n := (i : Int) + (j : Int)) (by omega) (by omega), u64w (by omega) (by omega), show (i : Int) + (j : Int) = ((i + j : Nat) : Int) by omega, e1, w64 (by omega) (by omega), at_int rfl hx]
      simp only [Option.bind_some]
      rw [find1_eq]
      simp only [Option.bind_some]
      unfold slices_BinarySearchFunc_files_file_files_file_string_b2
      by_cases hlt : Op.bytesLess (l[(i + j) / 2]).f0 n = true
      · have := hpi.1 hlt
        rw [if_pos hlt, if_pos (by decide), w64 (by omega) (by omega)]
        exact .inl ⟨_, rfl, ⟨(i + j) / 2 + 1, j, rfl, by omega, h2, h3⟩, by simp only; omega⟩
      · have : ¬ (i + j) / 2 < pos l n := fun q => hlt (hpi.2 q)
        rw [if_neg hlt, if_neg (by split <;> decide)]
        exact .inl ⟨_, rfl, ⟨i, (i + j) / 2, rfl, h1, by omega, by omega⟩, by simp only; omega⟩
    · rw [if_neg (by simp only [decide_eq_true_eq]; omega)]
      exact .inr ⟨_, rfl, by rw [show i = pos l n by omega]⟩)
  rw [hy, hm]
  simp only [Option.bind_some]
  unfold slices_BinarySearchFunc_files_file_files_file_string_x1_0 slices_BinarySearchFunc_files_file_files_file_string_b1 has
  by_cases hlt : pos l n < l.length
  · have hx := List.getElem?_eq_getElem hlt
    have hpi := pos_iff hl n hx
    have hnl : ¬ Op.bytesLess (l[pos l n]).f0 n = true := fun q => by have := hpi.1 q; omega
    rw [if_pos (by simp only [decide_eq_true_eq]; omega), at_int rfl hx, hx]
    simp only [Option.bind_some]
    rw [find1_eq]
    simp only [Option.bind_some]
    rw [if_neg hnl]
    congr 2
    by_cases e : (l[pos l n]).f0 = n
    · rw [if_pos e]; simp [e]
    · rw [if_neg e]; simp [e]
  · rw [if_neg (by simp only [decide_eq_true_eq]; omega), List.getElem?_eq_none (by omega)]
theorem find_eq (s : S68) (hl : Rise s.f0) (hlen : s.f0.length < 1099511627776) (n : List UInt8) : files_Store_find s n = some ((pos s.f0 n : Int), has s.f0 n) := by
  unfold files_Store_find
  rw [bsearch_eq s.f0 hl hlen n]
  rfl
end Go.Proofs.Ytgjhiojkkjaloaa.P
