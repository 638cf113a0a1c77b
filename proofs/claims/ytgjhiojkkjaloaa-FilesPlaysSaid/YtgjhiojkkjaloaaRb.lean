/- slices.Insert, slices.Delete at rows of files: what they come to. -/
import Derived.Test.YtgjhiojkkjaloaaRa
import Derived.Test.YtgjhiojkkjaloaaDa
import Derived.Test.YtgjhiojkkjaloaaEl
namespace Go.Proofs.Ytgjhiojkkjaloaa.P
open Go Go.RowKit Go.Proofs.Ytgjhiojkkjaloaa.E Go.Proofs.Ytgjhiojkkjaloaa.M
set_option linter.unusedVariables false

section
variable {α : Type}
theorem rdo_mid (A C : List (Option α)) (B : List α) {lo k : Nat} (hlo : A.length = lo) (hk : B.length = k) : rdo (A ++ (B.map some ++ C)) lo k = some B := by
  unfold rdo
  rw [if_pos (by simp; omega), ← hlo, List.drop_left, ← hk, show B.length = (B.map some).length by simp, List.take_left, seqO_map]
theorem drop_mid (A B : List α) {k : Nat} (m : Nat) (h : A.length = k) : (A ++ B).drop (k + m) = B.drop m := by
  subst h; rw [List.drop_append, List.drop_of_length_le (by omega), List.nil_append, Nat.add_sub_cancel_left]
theorem take_mid (A B : List α) {k : Nat} (h : A.length = k) : (A ++ B).take k = A := by subst h; exact List.take_left
theorem drop_mid0 (A B : List α) {k : Nat} (h : A.length = k) : (A ++ B).drop k = B := by subst h; exact List.drop_left
end

theorem ins_eq (P D ys : List (S73 × Hd)) (k0 : Nat) (hk : P.length + D.length ≤ k0) (hb : (P.length + D.length + ys.length) * 48 ≤ 140737488355328) (hm : 0 < ys.length) :
    slices_Insert_files_file_files_file (P ++ D) k0 (P.length : Int) ys = some (P ++ ys ++ D) := by
  unfold slices_Insert_files_file_files_file
  have hl : (P ++ D).length = P.length + D.length := List.length_append
  have c1 := cut_nat (xs := P ++ D) (l := P.length) (u := (P ++ D).length) (by omega) (Nat.le_refl _)
  rw [List.take_length, List.drop_left] at c1
  rw [c1]
  simp only [Option.bind_some, lt_]
  rw [if_neg (by simp only [beq_iff_eq]; omega)]
  by_cases hD : D = []
  · subst hD
    rw [if_pos (by simp), chk_pos (by rw [hl]; simp only [List.length_nil] at hb ⊢; omega)]
    simp
  have hDl : 0 < D.length := List.length_pos_iff.2 hD
  rw [if_neg (by simp only [beq_iff_eq, hl]; omega), hl, w64 (n := ((P.length + D.length : Nat) : Int) + (ys.length : Int)) (by omega) (by omega),
    show ((P.length + D.length : Nat) : Int) + (ys.length : Int) = ((P.length + D.length + ys.length : Nat) : Int) by omega]
  have e2 : IntKind.i64.wrap ((P.length : Int) + (ys.length : Int)) = ((P.length + ys.length : Nat) : Int) := by rw [w64 (by omega) (by omega)]; omega
  have e3 : IntKind.i64.wrap (((P.length + D.length + ys.length : Nat) : Int) - (P.length : Int)) = ((D.length + ys.length : Nat) : Int) := by rw [w64 (by omega) (by omega)]; omega
  rw [e2, e3]
  simp only [Int.toNat_natCast, Nat.zero_add]
  by_cases hg : k0 < P.length + D.length + ys.length
  · rw [if_pos (by simp only [decide_eq_true_eq]; omega)]
    have c2 := cut_nat (xs := P ++ D) (l := 0) (u := P.length) (by omega) (by omega)
    rw [List.take_left, List.drop_zero, show ((0 : Nat) : Int) = 0 from rfl] at c2
    rw [c2]
    simp only [Option.bind_some]
    generalize (((⟨[], [], 0⟩ : S73), none, 0, 0) : S73 × Hd) = z
    have q0 : (P ++ List.replicate (D.length + ys.length) z).length = P.length + D.length + ys.length := by simp; omega
    have q1 : ys.take (min ys.length (P.length + D.length + ys.length - P.length)) = ys := List.take_of_length_le (by omega)
    have q2 : (P ++ List.replicate (D.length + ys.length) z).take P.length ++ ys ++ (P ++ List.replicate (D.length + ys.length) z).drop (P.length + ys.length) = P ++ ys ++ List.replicate D.length z := by
      rw [List.take_left, drop_mid _ _ _ rfl, List.drop_replicate]
      congr 2
      omega
    rw [chk_pos (by omega), q0, q1, chk_pos (by omega), chk_pos (by omega), q2]
    have q3 : (P ++ ys ++ List.replicate D.length z).length = P.length + D.length + ys.length := by simp; omega
    rw [q3, chk_pos (by omega)]
    have q4 : D.take (min D.length (P.length + D.length + ys.length - (P.length + ys.length))) = D := List.take_of_length_le (by omega)
    rw [q4, chk_pos (by omega), take_mid (P ++ ys) _ (by simp), List.drop_of_length_le (by omega), List.append_nil]
  · rw [if_neg (by simp only [decide_eq_true_eq]; omega), chk_pos (by omega), chk_pos (by omega), chk_pos (by omega), chk_pos (by omega), chk_pos (by omega), chk_pos (by omega)]
    have e4 : (P ++ D).map some ++ List.replicate (k0 - (P.length + D.length)) none = P.map some ++ (D.map some ++ List.replicate (k0 - (P.length + D.length)) none) := by simp
    rw [e4, rdo_mid (P.map some) _ D (by simp) (by omega)]
    simp only [Option.bind_some]
    have q1 : ys.take (min ys.length (P.length + D.length + ys.length - P.length)) = ys := List.take_of_length_le (by omega)
    rw [chk_pos (by omega), chk_pos (by omega), q1, chk_pos (by omega)]
    generalize hN : List.replicate (k0 - (P.length + D.length)) (none : Option (S73 × Hd)) = N
    have hNl : N.length = k0 - (P.length + D.length) := by rw [← hN]; simp
    obtain ⟨O, hO⟩ : ∃ O, O = P.map some ++ (D.map some ++ N) := ⟨_, rfl⟩
    rw [← hO]
    have hOl : O.length = k0 := by rw [hO]; simp [hNl]; omega
    have q5 : (O.take (P.length + ys.length)).length = P.length + ys.length := by rw [List.length_take]; omega
    have q6 : (O.take (P.length + ys.length) ++ D.map some ++ O.drop (P.length + ys.length + D.length)).take P.length = P.map some := by
      rw [List.append_assoc, List.take_append_of_le_length (by omega), List.take_take, Nat.min_eq_left (by omega), hO, take_mid _ _ (by simp)]
    have q7 : (O.take (P.length + ys.length) ++ D.map some ++ O.drop (P.length + ys.length + D.length)).drop (P.length + ys.length) = D.map some ++ O.drop (P.length + ys.length + D.length) := by
      rw [List.append_assoc, drop_mid0 _ _ q5]
    rw [q6, q7]
    have q8 : P.map some ++ ys.map some ++ (D.map some ++ O.drop (P.length + ys.length + D.length)) = [] ++ ((P ++ ys ++ D).map some ++ O.drop (P.length + ys.length + D.length)) := by simp
    rw [q8, rdo_mid [] _ (P ++ ys ++ D) (lo := 0) (k := P.length + D.length + ys.length) rfl (by simp; omega)]
    rfl

theorem del_eq (P D : List (S73 × Hd)) (x : S73 × Hd) (k0 : Nat) (hk : P.length + 1 + D.length ≤ k0) (hb : k0 ≤ 9223372036854775807) :
    slices_Delete_files_file_files_file (P ++ x :: D) k0 (P.length : Int) ((P.length : Int) + 1) = some (P ++ D) := by
  unfold slices_Delete_files_file_files_file
  have hl : (P ++ x :: D).length = P.length + 1 + D.length := by simp; omega
  have t1 : ((P.length : Int) + 1).toNat = P.length + 1 := by omega
  rw [hl, t1, chk_pos (by omega), if_neg (by simp; omega), chk_pos (by omega), chk_pos (by omega), chk_pos (by omega)]
  simp only [Int.toNat_natCast, Nat.zero_add, lt_]
  rw [show P.length + 1 + D.length - (P.length + 1) = D.length by omega]
  generalize hN : List.replicate (k0 - (P.length + 1 + D.length)) (none : Option (S73 × Hd)) = N
  have hNl : N.length = k0 - (P.length + 1 + D.length) := by rw [← hN]; simp
  have e4 : (P ++ x :: D).map some ++ N = (P.map some ++ [some x]) ++ (D.map some ++ N) := by simp
  rw [e4, rdo_mid (P.map some ++ [some x]) N D (by simp) rfl]
  simp only [Option.bind_some]
  obtain ⟨O, hO⟩ : ∃ O, O = (P.map some ++ [some x]) ++ (D.map some ++ N) := ⟨_, rfl⟩
  rw [← hO]
  have hOl : O.length = k0 := by rw [hO]; simp [hNl]; omega
  have q6 : O.take P.length = P.map some := by rw [hO, List.append_assoc, take_mid _ _ (by simp)]
  rw [q6, chk_pos (by omega), chk_pos (by omega), show P.length + 1 + D.length - (P.length + D.length) = 1 by omega, chk_pos (by omega)]
  have q9 : ((P.map some ++ D.map some ++ O.drop (P.length + D.length)).take (P.length + D.length)) = (P ++ D).map some := by
    rw [take_mid _ _ (by simp)]; simp
  rw [q9]
  have q8 : ∀ X Y : List (Option (S73 × Hd)), (P ++ D).map some ++ X ++ Y = [] ++ ((P ++ D).map some ++ (X ++ Y)) := by intro X Y; simp
  rw [q8, rdo_mid [] _ (P ++ D) (lo := 0) (k := P.length + D.length) rfl (by simp)]
  rfl
end Go.Proofs.Ytgjhiojkkjaloaa.P
