/- slices.Insert, slices.Delete at rows of files that own rows. -/
import Derived.Test.YtgjhiojkkjaloaaRb
import Derived.Test.YtgjhiojkkjaloaaMa
namespace Go.Proofs.Ytgjhiojkkjaloaa.M
open Go Go.RowKit Go.Proofs.Ytgjhiojkkjaloaa.E Go.Proofs.Ytgjhiojkkjaloaa.P
set_option linter.unusedVariables false

section
variable {r w : World} {L : List HP} {α β : Type} {d : Kd β} {e' : TypeId} {g : α → List β}
theorem rows_append : ∀ {ps qs : List (α × Hd)} {L : List HP} {S : Nat → Prop}, Sep (rows d e' g ps :: rows d e' g qs :: L) w S → Sep (rows d e' g (ps ++ qs) :: L) w S
  | [], qs, L, S, h => by
    have h1 : Sep ([] ++ (rows d e' g qs :: L)) w S := Sep.unstar (Ls := []) h
    exact h1
  | p :: ps, qs, L, S, h => rows_cons.2 ((rows_cons.1 h).tl fun S hS => rows_append hS)
theorem rows_split : ∀ {ps qs : List (α × Hd)} {L : List HP} {S : Nat → Prop}, Sep (rows d e' g (ps ++ qs) :: L) w S → Sep (rows d e' g ps :: rows d e' g qs :: L) w S
  | [], qs, L, S, h => Sep.star (Ls := []) h
  | p :: ps, qs, L, S, h => rows_cons.2 ((rows_cons.1 h).tl fun S hS => rows_split hS)
end

/-- a row of files -/
abbrev oF (A : Option Addr) (n c : Nat) (xs : List S73) : HP := own2 kp73 (kI .u8) 5 (fun x : S73 => x.f1) 73 A n c xs

def ins_ (xs : List S73) (i : Int) (ys : List S73) : Option (List S73) := if 0 ≤ i ∧ i ≤ (xs.length : Int) ∧ 0 < ys.length ∧ (xs.length + ys.length) * 48 ≤ 140737488355328 then some (xs.take i.toNat ++ ys ++ xs.drop i.toNat) else none
def del_ (xs : List S73) (i j : Int) : Option (List S73) := if 0 ≤ i ∧ i < (xs.length : Int) ∧ j = i + 1 then some (xs.eraseIdx i.toNat) else none

theorem F_ins {r w : World} {L : List HP} (xs : List S73) (i : Int) (ys : List S73) {A B : Option Addr} {n c m c2 : Nat} {y : List S73} (hF : ins_ xs i ys = some y) (hS : SH r (oF A n c xs :: oF B m c2 ys :: L) w) :
    Ret Try.prog 38 #[.slice A n c, .int .i64 i, .slice B m c2] w fun v w' => ∃ (A' : Option Addr) (n' c' : Nat), v = .slice A' n' c' ∧ SH r (oF A' n' c' y :: L) w' := by
  unfold ins_ at hF
  split at hF
  · rename_i hi
    cases hF
    obtain ⟨ps, hps, h1⟩ := own2_open hS
    have h2 : SH r (oF B m c2 ys :: own kp73 73 A n c ps :: rows (kI .u8) 5 (fun x : S73 => x.f1) ps :: L) w := h1.sh fun S hS => (hS.tl fun S hS => hS.swap).swap
    obtain ⟨qs, hqs, h3⟩ := own2_open h2
    have h4 : SH r (own kp73 73 A n c ps :: own kp73 73 B m c2 qs :: rows (kI .u8) 5 (fun x : S73 => x.f1) ps :: rows (kI .u8) 5 (fun x : S73 => x.f1) qs :: L) w := h3.sh fun S hS =>
      (hS.tl fun S hS => (hS.swap).tl fun S hS => hS.swap).swap
    have hpl : ps.length = xs.length := by rw [← hps, List.length_map]
    have hql : qs.length = ys.length := by rw [← hqs, List.length_map]
    obtain ⟨hr, hn, hnc, hcm⟩ := h4.rd 0 rfl
    have hpd : ps.take i.toNat ++ ps.drop i.toNat = ps := List.take_append_drop _ _
    have hpt : (ps.take i.toNat).length = i.toNat := by rw [List.length_take]; omega
    have hdl : (ps.drop i.toNat).length = xs.length - i.toNat := by rw [List.length_drop]; omega
    have e := ins_eq (ps.take i.toNat) (ps.drop i.toNat) qs c (by omega) (by omega) (by omega)
    rw [hpd, hpt, Int.toNat_of_nonneg hi.1] at e
    refine Calls.mono (F_slices_Insert_files_file_files_file (L := rows (kI .u8) 5 (fun x : S73 => x.f1) ps :: rows (kI .u8) 5 (fun x : S73 => x.f1) qs :: L) ps c i qs A n B m c2 e h4) ?_
    rintro ev w' ⟨v, hv, A', n', c', hv2, h5⟩
    refine ⟨v, hv, A', n', c', hv2, own2_mk (ps := ps.take i.toNat ++ qs ++ ps.drop i.toNat) ?_ (h5.tl fun S hS => ?_)⟩
    · rw [List.map_append, List.map_append, List.map_take, List.map_drop, hps, hqs]
    · rw [← hpd] at hS
      have s1 := rows_split hS
      have s2 := s1.tl fun S hS => hS.swap
      rw [List.append_assoc]
      exact rows_append (s2.tl fun S hS => rows_append hS)
  · cases hF

theorem F_delh {r w : World} {L : List HP} {xs : List S73} {i : Int} {ps : List (S73 × Hd)} {p : S73 × Hd} {A : Option Addr} {n c : Nat} (hps : ps.map Prod.fst = xs) (hp : at_ ps i = some p) (hS : SH r (own kp73 73 A n c ps :: rows (kI .u8) 5 (fun x : S73 => x.f1) (ps.eraseIdx i.toNat) :: L) w) :
    Ret Try.prog 42 #[.slice A n c, .int .i64 i, .int .i64 (i + 1)] w fun v w' => ∃ (A' : Option Addr) (n' c' : Nat), v = .slice A' n' c' ∧ SH r (oF A' n' c' (xs.eraseIdx i.toNat) :: L) w' := by
  obtain ⟨hi0, hil, hip⟩ := at_some hp
  obtain ⟨hr, hn, hnc, hcm⟩ := hS.rd 0 rfl
  obtain ⟨hlt, hpp⟩ := List.getElem?_eq_some_iff.1 hip
  have hpd : ps.take i.toNat ++ p :: ps.drop (i.toNat + 1) = ps := by
    rw [← hpp, ← List.drop_eq_getElem_cons hlt, List.take_append_drop]
  have hpt : (ps.take i.toNat).length = i.toNat := by rw [List.length_take]; omega
  have hdl : (ps.drop (i.toNat + 1)).length = ps.length - (i.toNat + 1) := List.length_drop
  have hcb : c ≤ 9223372036854775807 := by unfold maxLen at hcm; omega
  have e := del_eq (ps.take i.toNat) (ps.drop (i.toNat + 1)) p c (by omega) hcb
  rw [hpd, hpt, Int.toNat_of_nonneg hi0] at e
  refine Calls.mono (F_slices_Delete_files_file_files_file (L := rows (kI .u8) 5 (fun x : S73 => x.f1) (ps.eraseIdx i.toNat) :: L) ps c i (i + 1) A n e hS) ?_
  rintro ev w' ⟨v, hv, A', n', c', hv2, h5⟩
  refine ⟨v, hv, A', n', c', hv2, ?_⟩
  rw [← List.eraseIdx_eq_take_drop_succ] at h5
  refine own2_mk (ps := ps.eraseIdx i.toNat) ?_ h5
  rw [← hps, List.eraseIdx_eq_take_drop_succ, List.eraseIdx_eq_take_drop_succ, List.map_append, List.map_take, List.map_drop]

theorem F_delj {r w : World} {L : List HP} {xs : List S73} {i j : Int} {ps : List (S73 × Hd)} {p : S73 × Hd} {A : Option Addr} {n c : Nat} (hj : j = i + 1) (hps : ps.map Prod.fst = xs) (hp : at_ ps i = some p) (hS : SH r (own kp73 73 A n c ps :: rows (kI .u8) 5 (fun x : S73 => x.f1) (ps.eraseIdx i.toNat) :: L) w) :
    Ret Try.prog 42 #[.slice A n c, .int .i64 i, .int .i64 j] w fun v w' => ∃ (A' : Option Addr) (n' c' : Nat), v = .slice A' n' c' ∧ SH r (oF A' n' c' (xs.eraseIdx i.toNat) :: L) w' := by
  subst hj
  exact F_delh hps hp hS
theorem F_del {r w : World} {L : List HP} (xs : List S73) (i j : Int) {A : Option Addr} {n c : Nat} {y : List S73} (hF : del_ xs i j = some y) (hS : SH r (oF A n c xs :: L) w) :
    Ret Try.prog 42 #[.slice A n c, .int .i64 i, .int .i64 j] w fun v w' => ∃ (A' : Option Addr) (n' c' : Nat), v = .slice A' n' c' ∧ SH r (oF A' n' c' y :: L) w' := by
  unfold del_ at hF
  split at hF
  · rename_i hi
    cases hF
    obtain ⟨h0, h1, rfl⟩ := hi
    have hx : at_ xs i = some (xs[i.toNat]'(by omega)) := by unfold at_; rw [if_pos h0, List.getElem?_eq_getElem]
    obtain ⟨ps, A', n', c', hps, hp, h2⟩ := own2_out hS hx
    have h3 : SH r (own kp73 73 A n c ps :: rows (kI .u8) 5 (fun x : S73 => x.f1) (ps.eraseIdx i.toNat) :: L) w := h2.sh fun S hS => hS.tl fun S hS => by
      obtain ⟨S1, S2, q1, q2, qd, hA, hL⟩ := hS
      exact hL.mono q2
    exact F_delh hps hp h3
  · cases hF
end Go.Proofs.Ytgjhiojkkjaloaa.M
