/- The law FilesRoom: as many bytes as there is room for are taken, and no more. -/
import Derived.Test.YtgjhiojkkjaloaaRj
import Derived.Test.YtgjhiojkkjaloaaDi
namespace Go.Proofs.Ytgjhiojkkjaloaa.P
open Go Go.RowKit Go.Proofs.Ytgjhiojkkjaloaa.E Go.Proofs.Ytgjhiojkkjaloaa.M
set_option linter.unusedVariables false

def flen (l : List S73) (n : List UInt8) : Nat := ((get l n).getD ⟨n, [], 0⟩).f1.length
def nm3 (k : Nat) : List UInt8 := if k = 0 then [97] else if k = 1 then [98] else [99]
theorem nm3_form (k : Nat) : formN (nm3 k) = true := by unfold nm3; split; decide; split <;> decide
theorem nm3_len (k : Nat) : (nm3 k).length < 4611686018427387904 := by unfold nm3; split; decide; split <;> decide
theorem nm3_ne {j k : Nat} (hj : j < 3) (hk : k < 3) (h : j ≠ k) : nm3 j ≠ nm3 k := by
  have : ∀ j : Fin 3, ∀ k : Fin 3, j ≠ k → nm3 j ≠ nm3 k := by decide
  exact this ⟨j, hj⟩ ⟨k, hk⟩ (fun e => h (by simpa using e))
def sizes (l : List S73) : List Int := [(flen l (nm3 0) : Int), flen l (nm3 1), flen l (nm3 2)]
theorem sizes_at {l : List S73} {k : Nat} (hk : k < 3) : at_ (sizes l) (k : Int) = some (flen l (nm3 k) : Int) := by
  rw [at_nat]
  rcases k with _ | _ | _ | k
  · rfl
  · rfl
  · rfl
  · omega
theorem names_at {k : Nat} (hk : k < 3) : at_ [[97], [98], [99]] (k : Int) = some (nm3 k) := by
  rw [at_nat]
  rcases k with _ | _ | _ | k
  · rfl
  · rfl
  · rfl
  · omega
theorem sizes_set {l m : List S73} {k : Nat} (hk : k < 3) (h : ∀ j, j < 3 → j ≠ k → flen m (nm3 j) = flen l (nm3 j)) : (sizes l).set k (flen m (nm3 k) : Int) = sizes m := by
  rcases k with _ | _ | _ | k
  · simp [sizes, h 1 (by omega) (by omega), h 2 (by omega) (by omega)]
  · simp [sizes, h 0 (by omega) (by omega), h 2 (by omega) (by omega)]
  · simp [sizes, h 0 (by omega) (by omega), h 1 (by omega) (by omega)]
  · omega
theorem flen_put {l : List S73} (hl : Rise l) (x : S73) (n : List UInt8) : flen (put l x) n = if x.f0 = n then x.f1.length else flen l n := by
  unfold flen
  rw [get_put hl]
  split <;> rfl
theorem flen_del {l : List S73} (hl : Rise l) (m n : List UInt8) : flen (del l m) n = if m = n then 0 else flen l n := by
  unfold flen
  rw [get_del hl]
  split <;> rfl

structure RI (n : Int) (i : Nat) (l : List S73) (ops : Int) : Prop where
  si : SI (2 * i) (onS l n ops)
  len : l.length ≤ i

theorem room_j4 {n : Int} {i : Nat} {l : List S73} {ops : Int} (hi : i < 60) (h : RI n (i + 1) l ops) : law05_FilesRoom_j4 (i : Int) (some (onS l n ops)) (used l : Int) (sizes l) = some (.inl (some (onS l n ops), (used l : Int), sizes l, ((i + 1 : Nat) : Int))) := by
  unfold law05_FilesRoom_j4
  rw [h.si.Used]
  simp only [Option.bind_some]
  rw [if_neg (by simp [onS]), lt_, w64 (by omega) (by omega)]
  rfl
theorem room_j3 {n : Int} {i : Nat} {l : List S73} {ops : Int} {e : Int} (hi : i < 60) {k : Nat} (hk : k < 3) (h : SI (2 * i + 1) (onS l n ops)) (hl : l.length ≤ i + 1) :
    ∃ l' ops', law05_FilesRoom_j3 (i : Int) (k : Int) (e, some (onS l n ops)) (used l : Int) (sizes l) = some (.inl (some (onS l' n ops'), (used l' : Int), sizes l', ((i + 1 : Nat) : Int))) ∧ RI n (i + 1) l' ops' := by
  unfold law05_FilesRoom_j3
  rw [lt_]
  by_cases c : (i : Int).tmod 5 = 4
  · rw [if_pos (by simpa using c), names_at hk]
    simp only [Option.bind_some]
    rw [h.Delete (by omega) (nm3_len k)]
    simp only [Option.bind_some]
    have hd := h.del (n := nm3 k)
    have hr : Rise l := h.rise
    unfold law05_FilesRoom_j5
    cases hg : get l (nm3 k) with
    | none =>
      have e1 : delS (onS l n ops) (nm3 k) = (5, onS l n ops) := by
        unfold delS chgS
        rw [if_pos (look_on (nm3_form k)), show get (onS l n ops).f0 (nm3 k) = none from hg]
      rw [e1, if_neg (by simp)]
      have hI : RI n (i + 1) l ops := ⟨h.mono (by omega), hl⟩
      exact ⟨l, ops, room_j4 hi hI, hI⟩
    | some x =>
      have e1 : delS (onS l n ops) (nm3 k) = (0, onS (del l (nm3 k)) n (ops + 1)) := chg_on (nm3_form k) hg
      rw [e1] at hd ⊢
      rw [if_pos (by simp), sizes_at hk]
      simp only [Option.bind_some, Int.toNat_natCast]
      have hu := used_del hr (nm3 k)
      have hul : used l ≤ 16777216 := by have h1 : ((used l : Nat) : Int) ≤ n := h.use; have h2 : n ≤ 16777216 := h.room.2; omega
      have e2 : flen (del l (nm3 k)) (nm3 k) = 0 := by rw [flen_del hr, if_pos rfl]
      have hs := sizes_set (l := l) (m := del l (nm3 k)) hk fun j hj hjk => by rw [flen_del hr, if_neg (fun e => nm3_ne hj hk hjk e.symm)]
      rw [e2] at hs
      have hff : flen l (nm3 k) = ((get l (nm3 k)).getD ⟨nm3 k, [], 0⟩).f1.length := rfl
      rw [← hff] at hu
      rw [lt_, w64 (by omega) (by omega), show ((used l : Nat) : Int) - (flen l (nm3 k) : Int) = ((used (del l (nm3 k)) : Nat) : Int) by omega, show (0 : Int) = ((0 : Nat) : Int) from rfl, hs]
      have hI : RI n (i + 1) (del l (nm3 k)) (ops + 1) := ⟨hd.mono (by omega), by have := len_del hr (nm3 k); omega⟩
      exact ⟨_, _, room_j4 hi hI, hI⟩
  · rw [if_neg (by simpa using c)]
    unfold law05_FilesRoom_j5
    rw [if_neg (by simp)]
    have hI : RI n (i + 1) l ops := ⟨h.mono (by omega), hl⟩
    exact ⟨l, ops, room_j4 hi hI, hI⟩
theorem room_round {n : Int} (hn : n ≤ 256) {a1 : List Int} (ha : ∀ b ∈ a1, 0 ≤ b ∧ b < 256) {i : Nat} (hi : i < a1.length) (hi6 : i < 60) {l : List S73} {ops : Int} (h : RI n i l ops) :
    ∃ l' ops', law05_FilesRoom_l1 a1 n (some (onS l n ops)) (used l : Int) (sizes l) (i : Int) = some (.inl (some (onS l' n ops'), (used l' : Int), sizes l', ((i + 1 : Nat) : Int))) ∧ RI n (i + 1) l' ops' := by
  have hx := List.getElem?_eq_getElem hi
  have hb := ha _ (List.getElem_mem hi)
  generalize a1[i] = b at hx hb
  have hr : Rise l := h.si.rise
  have hul : ((used l : Nat) : Int) ≤ n := h.si.use
  unfold law05_FilesRoom_l1
  rw [if_pos (by simp only [decide_eq_true_eq]; omega)]
  unfold law05_FilesRoom_j1
  rw [if_pos (by simp only [decide_eq_true_eq]; omega), at_int rfl hx]
  simp only [Option.bind_some]
  rw [lt_, w64 (by omega) (by omega)]
  obtain ⟨k, hk, hk3⟩ : ∃ k : Nat, b.tmod 3 = k ∧ k < 3 := ⟨(b % 3).toNat, by rw [Int.tmod_eq_emod_of_nonneg (by omega)]; omega, by omega⟩
  have hq : b.tdiv 4 = b / 4 := Int.tdiv_eq_ediv_of_nonneg (by omega)
  obtain ⟨m, hm, hm6⟩ : ∃ m : Nat, b.tdiv 4 = m ∧ m < 64 := ⟨(b / 4).toNat, by omega, by omega⟩
  rw [hk, lt_, hm, lt_, w64 (by omega) (by omega), chk_pos (by omega), names_at hk3]
  simp only [Option.bind_some, Int.toNat_natCast, List.length_replicate]
  rw [h.si.Append (by omega) (nm3_len k)]
  simp only [Option.bind_some]
  rw [lt_, w64 (by omega) (by omega)]
  have hap := h.si.app (n := nm3 k) (p := List.replicate m 0) (fun b hb => by rw [(List.mem_replicate.1 hb).2]; omega)
  by_cases c : (used l : Int) + m ≤ n
  · have e1 := app_on (l := l) (room := n) (ops := ops) (n := nm3 k) (p := List.replicate m 0) (nm3_form k) (by rw [List.length_replicate]; exact c) (by have := h.len; omega)
    rw [e1] at hap ⊢
    rw [if_neg (by rw [decide_eq_true c]; simp)]
    have hnz : ¬ ((0 : Int) != 0) = true := by decide
    simp only [if_neg hnz]
    unfold law05_FilesRoom_j2
    rw [if_neg (by simp), if_pos (by simp)]
    simp only [Int.toNat_natCast, List.length_replicate]
    rw [lt_, w64 (by omega) (by omega), sizes_at hk3]
    simp only [Option.bind_some]
    have hu := used_put hr ⟨nm3 k, ((get l (nm3 k)).getD ⟨nm3 k, [], 0⟩).f1 ++ List.replicate m 0, ((get l (nm3 k)).getD ⟨nm3 k, [], 0⟩).f2⟩
    have hlp := len_put hr ⟨nm3 k, ((get l (nm3 k)).getD ⟨nm3 k, [], 0⟩).f1 ++ List.replicate m 0, ((get l (nm3 k)).getD ⟨nm3 k, [], 0⟩).f2⟩
    have hfp := flen_put hr ⟨nm3 k, ((get l (nm3 k)).getD ⟨nm3 k, [], 0⟩).f1 ++ List.replicate m 0, ((get l (nm3 k)).getD ⟨nm3 k, [], 0⟩).f2⟩
    generalize hm' : put l ⟨nm3 k, ((get l (nm3 k)).getD ⟨nm3 k, [], 0⟩).f1 ++ List.replicate m 0, ((get l (nm3 k)).getD ⟨nm3 k, [], 0⟩).f2⟩ = m' at *
    simp only [List.length_append, List.length_replicate] at hu hfp
    have hff : flen l (nm3 k) = ((get l (nm3 k)).getD ⟨nm3 k, [], 0⟩).f1.length := rfl
    rw [← hff] at hu hfp
    have hfk := hfp (nm3 k)
    rw [if_pos rfl] at hfk
    have hs := sizes_set (l := l) (m := m') hk3 fun j hj hjk => by rw [hfp, if_neg (fun e => nm3_ne hj hk3 hjk e.symm)]
    have hfl : flen l (nm3 k) ≤ used l := by
      have := used_del hr (nm3 k)
      rw [← hff] at this
      omega
    rw [lt_, w64 (by omega) (by omega), show (used l : Int) + (m : Int) = ((used m' : Nat) : Int) by omega, show (flen l (nm3 k) : Int) + (m : Int) = ((flen m' (nm3 k) : Nat) : Int) by omega, hs]
    exact room_j3 hi6 hk3 hap (by rw [hlp]; have := h.len; split <;> omega)
  · have e1 : appS (onS l n ops) (nm3 k) (List.replicate m 0) = (10, onS l n ops) := by
      unfold appS
      rw [if_pos (look_on (nm3_form k)), if_pos (.inl (by rw [List.length_replicate]; show n - (used l : Int) < _; omega))]
    rw [e1] at hap ⊢
    rw [if_neg (by rw [decide_eq_false c]; simp)]
    have hnz : ((10 : Int) != 0) = true := by decide
    simp only [if_pos hnz]
    unfold law05_FilesRoom_j2
    rw [if_neg (by decide), if_neg (by simp)]
    exact room_j3 hi6 hk3 hap (by have := h.len; omega)
theorem room_loop {n : Int} (hn : n ≤ 256) {a1 : List Int} (ha : ∀ b ∈ a1, 0 ≤ b ∧ b < 256) : ∀ (m i : Nat) (l : List S73) (ops : Int), i + m = min a1.length 60 → RI n i l ops →
    loop (fun s : Option S68 × Int × List Int × Int => law05_FilesRoom_l1 a1 n s.1 s.2.1 s.2.2.1 s.2.2.2) (some (onS l n ops), (used l : Int), sizes l, (i : Int)) = some (.inl ())
  | 0, i, l, ops, hi, h => by
    refine loop_end ?_
    show law05_FilesRoom_l1 a1 n _ _ _ (i : Int) = _
    unfold law05_FilesRoom_l1
    by_cases c : (i : Int) < a1.length
    · rw [if_pos (by simpa using c)]
      unfold law05_FilesRoom_j1
      rw [if_neg (by simp only [decide_eq_true_eq]; omega)]
    · rw [if_neg (by simpa using c)]
      rfl
  | m + 1, i, l, ops, hi, h => by
    obtain ⟨l', ops', hs, h'⟩ := room_round hn ha (show i < a1.length by omega) (show i < 60 by omega) h
    rw [loop_nxt (b := fun s : Option S68 × Int × List Int × Int => law05_FilesRoom_l1 a1 n s.1 s.2.1 s.2.2.1 s.2.2.2) hs]
    exact room_loop hn ha m (i + 1) l' ops' (by omega) h'
theorem FilesRoom (a0 : Int) (a1 : List Int) (h0 : gI .u8 a0) (h1 : gL 1 (gI .u8) a1) : law05_FilesRoom a0 a1 = some true := by
  have ha : 0 ≤ a0 ∧ a0 < 256 := by
    unfold gI Lit.wf at h0
    simp only [Bool.and_eq_true, decide_eq_true_eq] at h0
    exact ⟨h0.1, Int.lt_of_le_of_lt h0.2 (by decide)⟩
  unfold law05_FilesRoom
  rw [awake_eq]
  simp only [Option.bind_some]
  rw [if_neg (by simp), lt_, w64 (n := a0) (by omega) (by omega), lt_, w64 (n := 1 + a0) (by omega) (by omega), New_eq (by omega) (by omega)]
  simp only [Option.bind_some]
  have hl := room_loop (n := 1 + a0) (by omega) (byt_of h1) (min a1.length 60) 0 [] 0 (by omega) ⟨SI_new (by omega) (by omega), by simp⟩
  have e : ((some (onS [] (1 + a0) 0), ((used [] : Nat) : Int), sizes [], ((0 : Nat) : Int)) : Option S68 × Int × List Int × Int) = (some (onS [] (1 + a0) 0), 0, [0, 0, 0], 0) := rfl
  rw [e] at hl
  rw [hl]
  rfl
end Go.Proofs.Ytgjhiojkkjaloaa.P
