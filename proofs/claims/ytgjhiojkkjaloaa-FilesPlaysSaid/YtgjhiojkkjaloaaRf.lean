/- What the other calls of a store come to; what holds of every store stays so. -/
import Derived.Test.YtgjhiojkkjaloaaRe
namespace Go.Proofs.Ytgjhiojkkjaloaa.P
open Go Go.RowKit Go.Proofs.Ytgjhiojkkjaloaa.E Go.Proofs.Ytgjhiojkkjaloaa.M
set_option linter.unusedVariables false

section
variable {k : Nat} {s : S68} {n : List UInt8}
def chgS (s : S68) (n : List UInt8) (f : S73 → List S73) : Int × S68 :=
  if lookS s n = 0 then
    match get s.f0 n with
    | none => (5, s)
    | some x => if (step s).f3 = true then (9, step s) else (0, { step s with f0 := f x })
  else (lookS s n, s)
def synS (s : S68) (n : List UInt8) : Int × S68 := chgS s n fun x => put s.f0 ⟨x.f0, x.f1, x.f1.length⟩
def delS (s : S68) (n : List UInt8) : Int × S68 := chgS s n fun x => del s.f0 n
def renS (s : S68) (a b : List UInt8) : Int × S68 :=
  if formN a = true then if lookS s b = 0 then chgS s a fun x => put (del s.f0 a) ⟨b, x.f1, x.f2⟩ else (lookS s b, s) else (1, s)

theorem SI.Sync (h : SI k s) (hk : k < 4611686018427387904) (hn : n.length < 4611686018427387904) : files_Store_Sync (some s) n = some ((synS s n).1, some (synS s n).2) := by
  show (files_change_Sync n s).bind _ = _
  unfold files_change_Sync synS chgS
  rw [look_eq s hn]
  simp only [Option.bind_some]
  by_cases c : lookS s n = 0
  · rw [if_neg (by simpa using c), if_pos c, h.find]
    simp only [Option.bind_some]
    have hb := h.begin hk
    have hr := h.rise
    rcases place hr n with ⟨P, x, D, e, hx⟩ | ⟨P, D, e, hP, hD⟩
    · rw [e] at hr
      have e1 : has s.f0 n = true := by rw [e]; exact has_mid hx hr
      have e2 : pos s.f0 n = P.length := by rw [e]; exact pos_mid hx hr
      have e3 : get s.f0 n = some x := by rw [e]; exact get_mid hx hr
      rw [e1, e2, e3, if_neg (by simp), hb]
      simp only [Option.bind_some]
      cases c3 : (step s).f3 with
      | true => rfl
      | false =>
        unfold files_Store_Sync_1
        rw [if_neg (by simp), if_neg (by simp), at_int rfl (show (step s).f0[P.length]? = some x by rw [show (step s).f0 = P ++ x :: D from e]; simp)]
        simp only [Option.bind_some]
        rw [e, put_mid (x := x) (y := ⟨x.f0, x.f1, x.f1.length⟩) rfl hr, show (step s).f0 = P ++ x :: D from e, Int.toNat_natCast,
          show (P ++ x :: D).set P.length (⟨x.f0, x.f1, x.f1.length⟩ : S73) = P ++ ⟨x.f0, x.f1, x.f1.length⟩ :: D by simp, ← c3]
    · rw [e] at hr
      have e1 : has s.f0 n = false := by rw [e]; exact has_gap hP hD
      have e3 : get s.f0 n = none := by rw [e]; exact get_gap hP hD
      rw [e1, e3, if_pos (by simp)]
      rfl
  · rw [if_pos (by simpa using c), if_neg c]
    rfl
theorem SI.Delete (h : SI k s) (hk : k < 4611686018427387904) (hn : n.length < 4611686018427387904) : files_Store_Delete (some s) n = some ((delS s n).1, some (delS s n).2) := by
  show (files_change_Delete n s).bind _ = _
  unfold files_change_Delete delS chgS
  rw [look_eq s hn]
  simp only [Option.bind_some]
  by_cases c : lookS s n = 0
  · rw [if_neg (by simpa using c), if_pos c, h.find]
    simp only [Option.bind_some]
    have hb := h.begin hk
    have hr := h.rise
    have hlen := h.len
    rcases place hr n with ⟨P, x, D, e, hx⟩ | ⟨P, D, e, hP, hD⟩
    · rw [e] at hr
      have e1 : has s.f0 n = true := by rw [e]; exact has_mid hx hr
      have e2 : pos s.f0 n = P.length := by rw [e]; exact pos_mid hx hr
      have e3 : get s.f0 n = some x := by rw [e]; exact get_mid hx hr
      have hl : s.f0.length = P.length + (D.length + 1) := by rw [e]; simp
      rw [e1, e2, e3, if_neg (by simp), hb]
      simp only [Option.bind_some]
      cases c3 : (step s).f3 with
      | true => rfl
      | false =>
        unfold files_Store_Delete_1 del_
        rw [if_neg (by simp), if_neg (by simp), lt_, w64 (by omega) (by omega), if_pos ⟨by omega, by show (P.length : Int) < (s.f0.length : Int); omega, rfl⟩]
        simp only [Option.bind_some]
        rw [e, del_mid hx hr, show (step s).f0 = P ++ x :: D from e, Int.toNat_natCast, List.eraseIdx_append_of_length_le (Nat.le_refl _), Nat.sub_self, List.eraseIdx_cons_zero, ← c3]
    · rw [e] at hr
      have e1 : has s.f0 n = false := by rw [e]; exact has_gap hP hD
      have e3 : get s.f0 n = none := by rw [e]; exact get_gap hP hD
      rw [e1, e3, if_pos (by simp)]
      rfl
  · rw [if_pos (by simpa using c), if_neg c]
    rfl
theorem SI.Rename (h : SI k s) (hk : k < 4611686018427387904) {a b : List UInt8} (ha : a.length < 4611686018427387904) (hn : b.length < 4611686018427387904) : files_Store_Rename (some s) a b = some ((renS s a b).1, some (renS s a b).2) := by
  show (files_Form a).bind _ = _
  unfold renS
  rw [Form_eq a ha]
  simp only [Option.bind_some]
  cases cf : formN a with
  | false => rfl
  | true =>
    rw [if_neg (by simp), if_pos rfl, look_eq s hn]
    simp only [Option.bind_some]
    by_cases c0 : lookS s b = 0
    · rw [if_neg (by simpa using c0), if_pos c0]
      unfold files_change_Rename chgS
      rw [look_eq s ha]
      simp only [Option.bind_some]
      by_cases c : lookS s a = 0
      · rw [if_neg (by simpa using c), if_pos c, h.find]
        simp only [Option.bind_some]
        have hb := h.begin hk
        have hr := h.rise
        have hlen := h.len
        rcases place hr a with ⟨P, x, D, e, hx⟩ | ⟨P, D, e, hP, hD⟩
        · rw [e] at hr
          have e1 : has s.f0 a = true := by rw [e]; exact has_mid hx hr
          have e2 : pos s.f0 a = P.length := by rw [e]; exact pos_mid hx hr
          have e3 : get s.f0 a = some x := by rw [e]; exact get_mid hx hr
          have hl : s.f0.length = P.length + (D.length + 1) := by rw [e]; simp
          have hs0 : (step s).f0 = P ++ x :: D := e
          rw [e1, e2, e3, if_neg (by simp), hb]
          simp only [Option.bind_some]
          cases c3 : (step s).f3 with
          | true => rfl
          | false =>
            unfold files_Store_Rename_1
            rw [if_neg (by simp), if_neg (by simp), at_int rfl (show (step s).f0[P.length]? = some x by rw [hs0]; simp)]
            simp only [Option.bind_some]
            have her : (step s).f0.eraseIdx (P.length : Int).toNat = P ++ D := by rw [hs0, Int.toNat_natCast, List.eraseIdx_append_of_length_le (Nat.le_refl _), Nat.sub_self, List.eraseIdx_cons_zero]
            have hdl : del s.f0 a = P ++ D := by rw [e]; exact del_mid hx hr
            have hrd : Rise (P ++ D) := rise_drop hr
            rw [lt_, w64 (by omega) (by omega), chk_pos rfl, her, hdl, find_eq _ hrd (by show (P ++ D).length < _; rw [List.length_append]; omega)]
            simp only [Option.bind_some]
            rcases place hrd b with ⟨P', x', D', e', hx'⟩ | ⟨P', D', e', hP', hD'⟩
            · rw [e'] at hrd ⊢
              rw [has_mid hx' hrd, pos_mid hx' hrd, if_pos rfl, at_int rfl (show (P' ++ x' :: D')[P'.length]? = some x' by simp)]
              simp only [Option.bind_some]
              rw [put_mid (y := ⟨b, x.f1, x.f2⟩) hx' hrd, Int.toNat_natCast, show (P' ++ x' :: D').set P'.length (⟨b, x.f1, x.f2⟩ : S73) = P' ++ ⟨b, x.f1, x.f2⟩ :: D' by simp, ← c3]
            · have hl' : P.length + D.length = P'.length + D'.length := by rw [← List.length_append, e', List.length_append]
              rw [e']
              rw [has_gap hP' hD', pos_gap hP' hD', if_neg (by simp)]
              unfold ins_
              rw [if_pos ⟨by omega, by rw [List.length_append]; omega, by simp, by rw [List.length_append]; simp only [List.length_singleton]; omega⟩]
              simp only [Option.bind_some]
              rw [put_gap (y := ⟨b, x.f1, x.f2⟩) hP' hD', Int.toNat_natCast, List.take_left, List.drop_left, ← c3]
              simp
        · rw [e] at hr
          have e1 : has s.f0 a = false := by rw [e]; exact has_gap hP hD
          have e3 : get s.f0 a = none := by rw [e]; exact get_gap hP hD
          rw [e1, e3, if_pos (by simp)]
          rfl
      · rw [if_pos (by simpa using c), if_neg c]
        rfl
    · rw [if_pos (by simpa using c0), if_neg c0]

/-! Arm, Restart, Spoil -/
def armS (s : S68) (n : Int) : Int × S68 := if n < 0 then (1, s) else (0, { s with f2 := n })
theorem Arm_eq (s : S68) (n : Int) : files_Store_Arm (some s) n = some ((armS s n).1, some (armS s n).2) := by
  show (if decide (n < 0) = true then _ else _) = _
  unfold armS
  by_cases c : n < 0
  · rw [if_pos (by simpa using c), if_pos c]
  · rw [if_neg (by simpa using c), if_neg c]
def cutF (x : S73) (n : Int) : S73 := if 0 ≤ n ∧ n < x.f1.length - x.f2 then ⟨x.f0, x.f1.take (x.f2 + n).toNat, x.f2 + n⟩ else ⟨x.f0, x.f1, x.f1.length⟩
def keepL (keep : List Int) (l : List S73) : List S73 := l.mapIdx fun i x => cutF x (keep.getD i 0)
def rstS (s : S68) (keep : List Int) : S68 := ⟨keepL keep s.f0, s.f1, 0, false, s.f4⟩
theorem keepL_len (keep : List Int) (l : List S73) : (keepL keep l).length = l.length := by simp [keepL]
theorem keepL_get (keep : List Int) (l : List S73) (i : Nat) : (keepL keep l)[i]? = (l[i]?).map fun x => cutF x (keep.getD i 0) := by simp [keepL]
theorem rst_set (keep : List Int) {l : List S73} {i : Nat} {x : S73} (hx : l[i]? = some x) : ((keepL keep l).take i ++ l.drop i).set i (cutF x (keep.getD i 0)) = (keepL keep l).take (i + 1) ++ l.drop (i + 1) := by
  have hi := (List.getElem?_eq_some_iff.1 hx).1
  have hl := keepL_len keep l
  have hlt : ((keepL keep l).take i).length = i := by rw [List.length_take]; omega
  rw [List.set_append_right _ _ (by omega), hlt, Nat.sub_self, List.drop_eq_getElem_cons hi, List.set_cons_zero, List.take_add_one, keepL_get, hx]
  simp
theorem rst_at (keep : List Int) {l : List S73} {i : Nat} {x : S73} (hx : l[i]? = some x) : ((keepL keep l).take i ++ l.drop i)[i]? = some x := by
  have hi := (List.getElem?_eq_some_iff.1 hx).1
  have hl := keepL_len keep l
  have hlt : ((keepL keep l).take i).length = i := by rw [List.length_take]; omega
  rw [List.getElem?_append_right (by omega), hlt, Nat.sub_self, List.getElem?_drop, Nat.add_zero, hx]
theorem rst_round (h : SI k s) (keep : List Int) {i : Nat} (hi : i < s.f0.length) :
    files_Store_Restart_l1 keep s ((keepL keep s.f0).take i ++ s.f0.drop i) (i : Int) = some (.inl ((keepL keep s.f0).take (i + 1) ++ s.f0.drop (i + 1), ((i + 1 : Nat) : Int))) := by
  have hx := List.getElem?_eq_getElem hi
  have hm : s.f0[i] ∈ s.f0 := List.getElem_mem hi
  generalize s.f0[i] = x at hx hm
  have ha := rst_at keep hx
  have hset := rst_set keep hx
  have hone := h.one hm
  have hsu := h.sure x hm
  have hlen := h.len
  generalize hL : (keepL keep s.f0).take i ++ s.f0.drop i = L at ha hset
  have hiL : i < L.length := (List.getElem?_eq_some_iff.1 ha).1
  have tail : ∀ (n : Int), n = keep.getD i 0 → files_Store_Restart_j1 L (i : Int) n = some (.inl ((keepL keep s.f0).take (i + 1) ++ s.f0.drop (i + 1), ((i + 1 : Nat) : Int))) := by
    intro n hn
    rw [← hn] at hset
    have j2 : ∀ (L' : List S73) (y : S73), L'[i]? = some y → files_Store_Restart_j2 (i : Int) L' = some (.inl (L'.set i ⟨y.f0, y.f1, y.f1.length⟩, ((i + 1 : Nat) : Int))) := by
      intro L' y hy
      unfold files_Store_Restart_j2
      rw [at_int rfl hy]
      simp only [Option.bind_some]
      rw [lt_, w64 (by omega) (by omega), Int.toNat_natCast]
      rfl
    have j3f : ¬ (0 ≤ n ∧ n < x.f1.length - x.f2) → files_Store_Restart_j3 L (i : Int) n false = some (.inl ((keepL keep s.f0).take (i + 1) ++ s.f0.drop (i + 1), ((i + 1 : Nat) : Int))) := by
      intro hc
      unfold files_Store_Restart_j3
      rw [if_neg (by simp), j2 L x ha, ← hset]
      unfold cutF
      rw [if_neg hc]
    unfold files_Store_Restart_j1
    by_cases c : 0 ≤ n
    · rw [if_pos (by simpa using c), at_int rfl ha]
      simp only [Option.bind_some]
      rw [lt_, w64 (by omega) (by omega)]
      by_cases c2 : n < x.f1.length - x.f2
      · unfold files_Store_Restart_j3
        rw [if_pos (by simpa using c2), at_int rfl ha]
        simp only [Option.bind_some]
        have hct := cut_nat (xs := x.f1) (l := 0) (u := (x.f2 + n).toNat) (by omega) (by omega)
        rw [Int.toNat_of_nonneg (by omega), show ((0 : Nat) : Int) = 0 from rfl, List.drop_zero] at hct
        rw [lt_, w64 (by omega) (by omega), hct]
        simp only [Option.bind_some]
        have hctl : (x.f1.take (x.f2 + n).toNat).length = (x.f2 + n).toNat := by rw [List.length_take]; omega
        rw [clone_eq _ (by omega)]
        simp only [Option.bind_some, Int.toNat_natCast]
        rw [j2 _ _ (List.getElem?_set_self hiL), List.set_set, ← hset]
        unfold cutF
        rw [if_pos ⟨c, c2⟩, hctl, Int.toNat_of_nonneg (by omega)]
      · rw [decide_eq_false c2]
        exact j3f fun q => c2 q.2
    · rw [if_neg (by simpa using c)]
      exact j3f fun q => c q.1
  unfold files_Store_Restart_l1
  rw [if_pos (by simpa using hi), at_int rfl ha]
  simp only [Option.bind_some]
  by_cases ck : i < keep.length
  · have hk := List.getElem?_eq_getElem ck
    rw [if_pos (by simpa using ck), at_int rfl hk]
    simp only [Option.bind_some]
    exact tail _ (by rw [List.getD_eq_getElem?_getD, hk]; rfl)
  · rw [if_neg (by simpa using ck)]
    exact tail _ (by rw [List.getD_eq_getElem?_getD, List.getElem?_eq_none (by omega)]; rfl)
theorem rst_loop (h : SI k s) (keep : List Int) : ∀ (m i : Nat), i + m = s.f0.length → loop (fun q : List S73 × Int => files_Store_Restart_l1 keep s q.1 q.2) ((keepL keep s.f0).take i ++ s.f0.drop i, (i : Int)) = some (keepL keep s.f0)
  | 0, i, hi => by
    refine loop_end ?_
    show files_Store_Restart_l1 keep s _ (i : Int) = _
    unfold files_Store_Restart_l1
    rw [if_neg (by simp only [decide_eq_true_eq]; omega), List.take_of_length_le (by rw [keepL_len]; omega), List.drop_of_length_le (by omega), List.append_nil]
  | m + 1, i, hi => by
    rw [loop_nxt (b := fun q : List S73 × Int => files_Store_Restart_l1 keep s q.1 q.2) (rst_round h keep (show i < s.f0.length by omega))]
    exact rst_loop h keep m (i + 1) (by omega)
theorem SI.Restart (h : SI k s) (keep : List Int) : files_Store_Restart (some s) keep = some (0, some (rstS s keep)) := by
  show (loop (fun q : List S73 × Int => files_Store_Restart_l1 keep s q.1 q.2) (s.f0, 0)).bind _ = _
  have hl := rst_loop h keep s.f0.length 0 (by omega)
  rw [List.take_zero, List.drop_zero, List.nil_append] at hl
  rw [show ((0 : Int)) = ((0 : Nat) : Int) from rfl, hl]
  rfl
def flip (p : List Int) (bit : Int) : List Int := p.set (bit / 8).toNat (ixor .u8 (p.getD (bit / 8).toNat 0) (ishl .u8 1 (bit % 8)))
def spoS (s : S68) (n : List UInt8) (bit : Int) : Int × S68 :=
  match get s.f0 n with
  | none => (5, s)
  | some x => if bit < 0 ∨ 8 * x.f1.length ≤ bit then (1, s) else (0, { s with f0 := put s.f0 ⟨x.f0, flip x.f1 bit, x.f2⟩ })
theorem SI.Spoil (h : SI k s) (n : List UInt8) (bit : Int) : files_Store_Spoil (some s) n bit = some ((spoS s n bit).1, some (spoS s n bit).2) := by
  show (files_Store_find s n).bind _ = _
  unfold spoS
  rw [h.find]
  simp only [Option.bind_some]
  have hr := h.rise
  rcases place hr n with ⟨P, x, D, e, hx⟩ | ⟨P, D, e, hP, hD⟩
  · rw [e] at hr
    have hx1 := h.one (x := x) (by rw [e]; simp)
    have e1 : has s.f0 n = true := by rw [e]; exact has_mid hx hr
    have e2 : pos s.f0 n = P.length := by rw [e]; exact pos_mid hx hr
    have e3 : get s.f0 n = some x := by rw [e]; exact get_mid hx hr
    have ha : s.f0[P.length]? = some x := by rw [e]; simp
    rw [e1, e2, e3, if_neg (by simp)]
    have jt : ∀ b, b = true → files_Store_Spoil_j1 bit s ((P.length : Int), true) b = some (1, some s) := by intro b hb; subst hb; rfl
    by_cases c1 : bit < 0
    · rw [if_pos (by simpa using c1), jt _ rfl]
      simp only [if_pos (show bit < 0 ∨ 8 * (x.f1.length : Int) ≤ bit from .inl c1)]
    rw [if_neg (by simpa using c1), at_int rfl ha]
    simp only [Option.bind_some]
    rw [lt_, w64 (by omega) (by omega)]
    by_cases c2 : 8 * (x.f1.length : Int) ≤ bit
    · rw [jt _ (by simpa using c2)]
      simp only [if_pos (show bit < 0 ∨ 8 * (x.f1.length : Int) ≤ bit from .inr c2)]
    simp only [if_neg (show ¬ (bit < 0 ∨ 8 * (x.f1.length : Int) ≤ bit) from fun q => q.elim c1 c2)]
    unfold files_Store_Spoil_j1
    rw [if_neg (by simpa using c2), at_int rfl ha]
    simp only [Option.bind_some]
    have hil : P.length < s.f0.length := (List.getElem?_eq_some_iff.1 ha).1
    rw [clone_eq _ (by omega)]
    simp only [Option.bind_some, Int.toNat_natCast]
    rw [at_int rfl (List.getElem?_set_self hil)]
    simp only [Option.bind_some]
    have hd : bit.tdiv 8 = ((bit / 8).toNat : Int) := by rw [Int.tdiv_eq_ediv_of_nonneg (by omega)]; omega
    have hm : bit.tmod 8 = bit % 8 := Int.tmod_eq_emod_of_nonneg (by omega)
    have hg := List.getElem?_eq_getElem (l := x.f1) (i := (bit / 8).toNat) (by omega)
    rw [lt_, w64 (by rw [hd]; omega) (by rw [hd]; omega), at_int hd hg]
    simp only [Option.bind_some]
    rw [chk_pos (by rw [hm]; omega), lt_, lt_, hm, hd, Int.toNat_natCast, List.set_set, e, put_mid (x := x) (y := ⟨x.f0, flip x.f1 bit, x.f2⟩) rfl hr]
    unfold flip
    rw [show x.f1.getD (bit / 8).toNat 0 = x.f1[(bit / 8).toNat] by rw [List.getD_eq_getElem?_getD, hg]; rfl]
    simp
  · rw [e] at hr
    have e1 : has s.f0 n = false := by rw [e]; exact has_gap hP hD
    have e3 : get s.f0 n = none := by rw [e]; exact get_gap hP hD
    rw [e1, e3, if_pos (by simp)]

/-! what stays so -/
theorem look0 (h : lookS s n = 0) : formN n = true ∧ s.f3 = false := by
  unfold lookS at h
  split at h
  · split at h
    · cases h
    · exact ⟨by assumption, by simpa using (by assumption : ¬ s.f3 = true)⟩
  · cases h
theorem SI.app (h : SI k s) {p : List Int} (hp : ∀ b ∈ p, 0 ≤ b ∧ b < 256) : SI (k + 1) (appS s n p).2 := by
  unfold appS
  split
  · rename_i c
    split
    · exact h.mono (Nat.le_succ k)
    · rename_i c1
      have hs := h.stepped
      have hu := used_put h.rise ⟨n, ((get s.f0 n).getD ⟨n, [], 0⟩).f1 ++ p, ((get s.f0 n).getD ⟨n, [], 0⟩).f2⟩
      have hl := len_put h.rise ⟨n, ((get s.f0 n).getD ⟨n, [], 0⟩).f1 ++ p, ((get s.f0 n).getD ⟨n, [], 0⟩).f2⟩
      have hold : ∀ y, y = (get s.f0 n).getD ⟨n, [], 0⟩ → (0 ≤ y.f2 ∧ y.f2 ≤ y.f1.length) ∧ ∀ b ∈ y.f1, 0 ≤ b ∧ b < 256 := by
        intro y hy
        cases hg : get s.f0 n with
        | none => rw [hg] at hy; subst hy; simp
        | some x => rw [hg] at hy; subst hy; exact ⟨h.sure _ (get_mem hg).1, h.byt _ (get_mem hg).1⟩
      obtain ⟨ho1, ho2⟩ := hold _ rfl
      have hlen := h.len; have huse := h.use; have hro := h.room
      refine ⟨put_rise h.rise _, fun x hx => ?_, ?_, hs.room, ?_, fun x hx => ?_, fun x hx => ?_, hs.armed, hs.ops⟩
      · rcases put_mem hx with rfl | hx
        · exact (look0 c).1
        · exact h.form x hx
      · show (put s.f0 _).length ≤ 500
        rw [hl]
        split
        · exact hlen
        · rename_i hi
          have hi' : get s.f0 n = none := by simpa using hi
          have : ¬ 500 ≤ s.f0.length := fun q => c1 (.inr ⟨by rw [hi']; rfl, q⟩)
          omega
      · show ((used (put s.f0 _) : Nat) : Int) ≤ s.f1
        simp only [List.length_append] at hu
        have : ¬ s.f1 - used s.f0 < p.length := fun q => c1 (.inl q)
        omega
      · rcases put_mem hx with rfl | hx
        · simp only [List.length_append]; omega
        · exact h.sure x hx
      · rcases put_mem hx with rfl | hx
        · intro b hb
          rcases List.mem_append.1 hb with hb | hb
          · exact ho2 b hb
          · exact hp b hb
        · exact h.byt x hx
  · exact h.mono (Nat.le_succ k)
theorem SI.putS (h : SI k s) {l : List S73} (hl : Rise l) (hs : ∀ x ∈ l, x ∈ s.f0) (y : S73) (hf : formN y.f0 = true) (hn : (put l y).length ≤ 500) (hu : (used (put l y) : Int) ≤ s.f1) (h2 : 0 ≤ y.f2 ∧ y.f2 ≤ y.f1.length) (hb : ∀ b ∈ y.f1, 0 ≤ b ∧ b < 256) {a : Int} (ha : 0 ≤ a ∧ a ≤ 9223372036854775807) {f : Bool} {o : Int} (ho : 0 ≤ o ∧ o ≤ (k + 1 : Nat)) :
    SI (k + 1) ⟨put l y, s.f1, a, f, o⟩ := by
  refine ⟨put_rise hl _, fun x hx => ?_, hn, h.room, hu, fun x hx => ?_, fun x hx => ?_, ha, ho⟩
  all_goals rcases put_mem hx with rfl | hx
  · exact hf
  · exact h.form x (hs x hx)
  · exact h2
  · exact h.sure x (hs x hx)
  · exact hb
  · exact h.byt x (hs x hx)
theorem SI.chg (h : SI k s) {f : S73 → List S73} (hf : ∀ x, get s.f0 n = some x → SI (k + 1) { step s with f0 := f x }) : SI (k + 1) (chgS s n f).2 := by
  unfold chgS
  split
  · split
    · exact h.mono (Nat.le_succ k)
    · rename_i x hx
      split
      · exact h.stepped
      · exact hf x hx
  · exact h.mono (Nat.le_succ k)
theorem SI.syn (h : SI k s) : SI (k + 1) (synS s n).2 := by
  refine h.chg fun x hx => ?_
  obtain ⟨hm, hn⟩ := get_mem hx
  have hl := len_put h.rise ⟨x.f0, x.f1, x.f1.length⟩
  have hu := used_put h.rise ⟨x.f0, x.f1, x.f1.length⟩
  subst hn
  simp only at hl hu
  rw [hx] at hl hu
  simp only [Option.isSome_some, if_true, Option.getD_some] at hl hu
  exact h.putS h.rise (fun _ h => h) ⟨x.f0, x.f1, x.f1.length⟩ (h.form x hm) (by rw [hl]; exact h.len) (by have := h.use; omega) ⟨by simp, by simp⟩ (h.byt x hm) h.stepped.armed h.stepped.ops
theorem SI.del (h : SI k s) : SI (k + 1) (delS s n).2 := by
  refine h.chg fun x hx => ?_
  have hl := len_del h.rise n
  have hu := used_del h.rise n
  exact ⟨del_rise h.rise n, fun y hy => h.form y (del_mem hy), by show (P.del s.f0 n).length ≤ 500; have := h.len; omega, h.room, by show (used (P.del s.f0 n) : Int) ≤ s.f1; have := h.use; omega, fun y hy => h.sure y (del_mem hy), fun y hy => h.byt y (del_mem hy), h.stepped.armed, h.stepped.ops⟩
theorem SI.ren (h : SI k s) {a b : List UInt8} : SI (k + 1) (renS s a b).2 := by
  unfold renS
  split
  · split
    · rename_i c
      refine h.chg fun x hx => ?_
      obtain ⟨hm, hn⟩ := get_mem hx
      have hl := len_del h.rise a
      have hu := used_del h.rise a
      have hl2 := len_put (del_rise h.rise a) ⟨b, x.f1, x.f2⟩
      have hu2 := used_put (del_rise h.rise a) ⟨b, x.f1, x.f2⟩
      rw [hx] at hl hu
      simp only [Option.isSome_some, if_true, Option.getD_some] at hl hu hl2 hu2
      have h1 := h.len; have h2 := h.use
      exact h.putS (del_rise h.rise a) (fun y hy => del_mem hy) ⟨b, x.f1, x.f2⟩ (look0 c).1 (by rw [hl2]; split <;> omega) (by omega) (h.sure x hm) (h.byt x hm) h.stepped.armed h.stepped.ops
    · exact h.mono (Nat.le_succ k)
  · exact h.mono (Nat.le_succ k)
theorem SI.arm (h : SI k s) {m : Int} (hm : m ≤ 9223372036854775807) : SI (k + 1) (armS s m).2 := by
  unfold armS
  split
  · exact h.mono (Nat.le_succ k)
  · exact ⟨h.rise, h.form, h.len, h.room, h.use, h.sure, h.byt, ⟨by simp only; omega, hm⟩, by have := h.ops; simp only; omega⟩
theorem cutF_name (x : S73) (m : Int) : (cutF x m).f0 = x.f0 := by unfold cutF; split <;> rfl
theorem cutF_len {x : S73} (hx : 0 ≤ x.f2) (m : Int) : (cutF x m).f1.length ≤ x.f1.length ∧ (cutF x m).f2 = (cutF x m).f1.length := by
  unfold cutF
  split
  · simp only [List.length_take]; omega
  · simp
theorem keepL_names (keep : List Int) (l : List S73) : (keepL keep l).map S73.f0 = l.map S73.f0 := by
  refine List.ext_getElem? fun i => ?_
  rw [List.getElem?_map, List.getElem?_map, keepL_get]
  cases l[i]? with
  | none => rfl
  | some x => simp [cutF_name]
theorem rise_names {l m : List S73} (h : l.map S73.f0 = m.map S73.f0) (hm : Rise m) : Rise l := by
  have e : ∀ l : List S73, Rise l ↔ (l.map S73.f0).Pairwise fun a b => Op.bytesLess a b = true := fun l => by unfold Rise; rw [List.pairwise_map]
  rw [e, h, ← e]
  exact hm
theorem keepL_mem {keep : List Int} {l : List S73} {y : S73} (h : y ∈ keepL keep l) : ∃ x ∈ l, ∃ m, y = cutF x m := by
  obtain ⟨i, hi⟩ := List.getElem?_of_mem h
  rw [keepL_get] at hi
  cases hx : l[i]? with
  | none => rw [hx] at hi; cases hi
  | some x => rw [hx] at hi; cases hi; exact ⟨x, List.mem_of_getElem? hx, _, rfl⟩
theorem keepL_used : ∀ {l m : List S73}, l.length = m.length → (∀ (i : Nat) (x y : S73), l[i]? = some x → m[i]? = some y → y.f1.length ≤ x.f1.length) → used m ≤ used l
  | [], [], _, _ => Nat.le_refl _
  | x :: l, y :: m, hl, h => by
    rw [used_cons, used_cons]
    have h1 := h 0 x y rfl rfl
    have h2 := keepL_used (l := l) (m := m) (by simpa using hl) fun i a b ha hb => h (i + 1) a b (by simpa using ha) (by simpa using hb)
    omega
theorem SI.rst (h : SI k s) (keep : List Int) : SI k (rstS s keep) := by
  refine ⟨rise_names (keepL_names keep s.f0) h.rise, fun y hy => ?_, by show (keepL keep s.f0).length ≤ 500; rw [keepL_len]; exact h.len, h.room, ?_, fun y hy => ?_, fun y hy => ?_, ⟨Int.le_refl 0, by show (0 : Int) ≤ 9223372036854775807; decide⟩, h.ops⟩
  · obtain ⟨x, hx, m, rfl⟩ := keepL_mem hy
    rw [cutF_name]; exact h.form x hx
  · show (used (keepL keep s.f0) : Int) ≤ s.f1
    have := keepL_used (keepL_len keep s.f0).symm fun i x y hx hy => by
      rw [keepL_get, hx] at hy
      cases hy
      exact (cutF_len (h.sure x (List.mem_of_getElem? hx)).1 _).1
    have := h.use; omega
  · obtain ⟨x, hx, m, rfl⟩ := keepL_mem hy
    rw [(cutF_len (h.sure x hx).1 m).2]; omega
  · obtain ⟨x, hx, m, rfl⟩ := keepL_mem hy
    intro b hb
    refine h.byt x hx b ?_
    unfold cutF at hb
    split at hb
    · exact List.mem_of_mem_take hb
    · exact hb
end
end Go.Proofs.Ytgjhiojkkjaloaa.P
