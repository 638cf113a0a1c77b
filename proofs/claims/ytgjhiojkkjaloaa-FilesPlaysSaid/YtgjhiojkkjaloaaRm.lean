/- The document's store: where a name stands, how files are laid and struck; it is the program's store, told otherwise. -/
import Derived.Test.YtgjhiojkkjaloaaRf
namespace Go.Proofs.Ytgjhiojkkjaloaa.P
open Go Go.RowKit Go.Proofs.Ytgjhiojkkjaloaa.E Go.Proofs.Ytgjhiojkkjaloaa.M
set_option linter.unusedVariables false

theorem loop_run {σ τ : Type} {b : σ → Option (σ ⊕ τ)} (f : Nat → σ) : ∀ (n i : Nat), (∀ k, i ≤ k → k < i + n → b (f k) = some (.inl (f (k + 1)))) → loop b (f i) = loop b (f (i + n))
  | 0, i, _ => rfl
  | n + 1, i, h => by
    rw [loop_nxt (h i (Nat.le_refl _) (by omega)), loop_run f n (i + 1) (fun k h1 h2 => h k (by omega) (by omega)), show i + 1 + n = i + (n + 1) by omega]

section
variable {m : S53} {n : List UInt8} {P D : List S62} {x : S62}
theorem rat_mid (hm : m.f0 = P ++ x :: D) (hl : m.f0.length < 1099511627776) (hP : ∀ y ∈ P, y.f0 ≠ n) (hx : x.f0 = n) : r05_Store_at m n = some (P.length : Int) := by
  unfold r05_Store_at
  have hlen : m.f0.length = P.length + (D.length + 1) := by rw [hm]; simp
  have h := loop_to (b := fun s => r05_Store_at_l1 m n s) (f := fun i : Nat => (i : Int)) (t := .inr (P.length : Int)) P.length (fun k hk => by
    have hx := List.getElem?_eq_getElem (l := P) (i := k) hk
    have hy : m.f0[k]? = some P[k] := by rw [hm, List.getElem?_append_left hk, hx]
    show r05_Store_at_l1 m n (k : Int) = _
    unfold r05_Store_at_l1
    rw [if_pos (by simp only [decide_eq_true_eq]; omega), at_int rfl hy]
    simp only [Option.bind_some]
    rw [if_neg (by simpa using hP _ (List.getElem_mem hk)), lt_, w64 (by omega) (by omega)]
    rfl) (by
    show r05_Store_at_l1 m n (P.length : Int) = _
    unfold r05_Store_at_l1
    rw [if_pos (by simp only [decide_eq_true_eq]; omega), at_int rfl (show m.f0[P.length]? = some x by rw [hm]; simp)]
    simp only [Option.bind_some]
    rw [if_pos (by simpa using hx)])
  rw [show ((0 : Nat) : Int) = 0 from rfl] at h
  rw [h]
  rfl
theorem rat_gap (hl : m.f0.length < 1099511627776) (hP : ∀ y ∈ m.f0, y.f0 ≠ n) : r05_Store_at m n = some (-1) := by
  unfold r05_Store_at
  have h := loop_to (b := fun s => r05_Store_at_l1 m n s) (f := fun i : Nat => (i : Int)) (t := .inl ()) m.f0.length (fun k hk => by
    show r05_Store_at_l1 m n (k : Int) = _
    unfold r05_Store_at_l1
    rw [if_pos (by simp only [decide_eq_true_eq]; omega), at_int rfl (List.getElem?_eq_getElem hk)]
    simp only [Option.bind_some]
    rw [if_neg (by simpa using hP _ (List.getElem_mem hk)), lt_, w64 (by omega) (by omega)]
    rfl) (by
    show r05_Store_at_l1 m n (m.f0.length : Int) = _
    unfold r05_Store_at_l1
    rw [if_neg (by simp)])
  rw [show ((0 : Nat) : Int) = 0 from rfl] at h
  rw [h]
  rfl
theorem rdrop_mid (hm : m.f0 = P ++ x :: D) (hl : m.f0.length < 1099511627776) : r05_Store_drop m (P.length : Int) = some ⟨P ++ D, m.f1, m.f2, m.f3, m.f4⟩ := by
  have hlen : m.f0.length = P.length + (D.length + 1) := by rw [hm]; simp
  unfold r05_Store_drop
  have c1 := cut_nat (xs := m.f0) (l := 0) (u := P.length) (by omega) (by omega)
  rw [List.drop_zero, show ((0 : Nat) : Int) = 0 from rfl, show m.f0.take P.length = P by rw [hm]; simp] at c1
  have c2 := cut_nat (xs := m.f0) (l := P.length + 1) (u := m.f0.length) (by omega) (by omega)
  rw [List.take_length, show m.f0.drop (P.length + 1) = D by rw [hm, List.drop_append]; simp] at c2
  rw [c1]
  simp only [Option.bind_some]
  rw [chk_pos (by simp only [List.length_nil]; omega), lt_, w64 (by omega) (by omega), show (P.length : Int) + 1 = ((P.length + 1 : Nat) : Int) by omega, c2]
  simp only [Option.bind_some]
  rw [chk_pos (by omega)]
theorem rput_gap {f : S62} (hm : m.f0 = P ++ D) (hl : m.f0.length < 1099511627776) (hP : ∀ y ∈ P, Op.bytesLess y.f0 f.f0 = true) (hD : ∀ y ∈ D, Op.bytesLess f.f0 y.f0 = true) : r05_Store_put m f = some ⟨P ++ f :: D, m.f1, m.f2, m.f3, m.f4⟩ := by
  have hlen : m.f0.length = P.length + D.length := by rw [hm]; simp
  unfold r05_Store_put
  generalize hb : (fun s : List S62 × Bool × Int => r05_Store_put_l1 m f s.1 s.2.1 s.2.2) = b
  have hj2 : ∀ (i : Nat) (l : List S62) (d : Bool) (y : S62), m.f0[i]? = some y → l.length ≤ m.f0.length + 1 → r05_Store_put_j2 m (i : Int) l d = some (.inl (l ++ [y], d, ((i + 1 : Nat) : Int))) := by
    intro i l d y hy hll
    have hi := (List.getElem?_eq_some_iff.1 hy).1
    unfold r05_Store_put_j2
    rw [at_int rfl hy]
    simp only [Option.bind_some]
    rw [chk_pos (by simp only [List.length_singleton]; omega), lt_, w64 (by omega) (by omega)]
    rfl
  have h1 := loop_run (b := b) (fun i : Nat => (P.take i, false, (i : Int))) P.length 0 (fun k _ hk => by
    have hkP : k < P.length := by omega
    have hx := List.getElem?_eq_getElem (l := P) (i := k) hkP
    have hy : m.f0[k]? = some P[k] := by rw [hm, List.getElem?_append_left hkP, hx]
    subst hb
    show r05_Store_put_l1 m f (P.take k) false (k : Int) = _
    unfold r05_Store_put_l1
    rw [if_pos (by simp only [decide_eq_true_eq]; omega), if_pos (by simp), at_int rfl hy]
    simp only [Option.bind_some]
    unfold r05_Store_put_j3
    rw [hP _ (List.getElem_mem hkP), if_neg (by simp), hj2 k _ _ _ hy (by rw [List.length_take]; omega), List.take_add_one, hx]
    rfl)
  simp only [List.take_zero, Nat.zero_add, List.take_length] at h1
  rw [show ((0 : Nat) : Int) = 0 from rfl] at h1
  rw [h1]
  cases D with
  | nil =>
    rw [List.append_nil] at hm
    have h2 : loop b (P, false, (P.length : Int)) = some (P, false) := by
      refine loop_end ?_
      subst hb
      show r05_Store_put_l1 m f P false (P.length : Int) = _
      unfold r05_Store_put_l1
      rw [if_neg (by rw [hm]; simp)]
    rw [h2]
    show r05_Store_put_b1 m f P false = _
    unfold r05_Store_put_b1
    rw [if_pos (by simp), chk_pos (by simp only [List.length_singleton]; omega)]
    rfl
  | cons d D =>
    simp only [List.length_cons] at hlen
    have hdP : m.f0[P.length]? = some d := by rw [hm]; simp
    have hd := hD d (List.mem_cons_self ..)
    have h2 : b (P, false, (P.length : Int)) = some (.inl (P ++ f :: d :: D.take 0, true, ((P.length + (0 + 1) : Nat) : Int))) := by
      subst hb
      show r05_Store_put_l1 m f P false (P.length : Int) = _
      unfold r05_Store_put_l1
      rw [if_pos (by simp only [decide_eq_true_eq]; omega), if_pos (by simp), at_int rfl hdP]
      simp only [Option.bind_some]
      unfold r05_Store_put_j3
      rw [bl_asym hd, if_pos (by simpa using fun e : d.f0 = f.f0 => bl_ne hd e.symm), chk_pos (by simp only [List.length_singleton]; omega), hj2 _ _ _ _ hdP (by simp only [List.length_append, List.length_singleton]; omega)]
      simp
    rw [loop_nxt h2]
    have h3 := loop_run (b := b) (fun j : Nat => (P ++ f :: d :: D.take j, true, ((P.length + (j + 1) : Nat) : Int))) D.length 0 (fun k _ hk => by
      have hkD : k < D.length := by omega
      have hx := List.getElem?_eq_getElem (l := D) (i := k) hkD
      have hy : m.f0[P.length + (k + 1)]? = some D[k] := by rw [hm, List.getElem?_append_right (by omega), Nat.add_sub_cancel_left, List.getElem?_cons_succ, hx]
      subst hb
      show r05_Store_put_l1 m f (P ++ f :: d :: D.take k) true ((P.length + (k + 1) : Nat) : Int) = _
      unfold r05_Store_put_l1
      rw [if_pos (by simp only [decide_eq_true_eq]; omega), if_neg (by simp)]
      unfold r05_Store_put_j3
      rw [if_neg (by simp), hj2 _ _ _ _ hy (by simp only [List.length_append, List.length_cons, List.length_take]; omega), List.take_add_one, hx]
      simp <;> omega)
    simp only [Nat.zero_add, List.take_length] at h3
    simp only [Nat.zero_add]
    rw [h3]
    have h4 : loop b (P ++ f :: d :: D, true, ((P.length + (D.length + 1) : Nat) : Int)) = some (P ++ f :: d :: D, true) := by
      refine loop_end ?_
      subst hb
      show r05_Store_put_l1 m f _ true ((P.length + (D.length + 1) : Nat) : Int) = _
      unfold r05_Store_put_l1
      rw [if_neg (by simp only [decide_eq_true_eq]; omega)]
    rw [h4]
    rfl
end

/-! the program's files as the document's -/
def cv (x : S73) : S62 := ⟨x.f0, bts (x.f1.take x.f2.toNat), bts (x.f1.drop x.f2.toNat)⟩
def cvS (s : S68) : S53 := ⟨s.f0.map cv, s.f1, s.f2, s.f3, s.f4⟩
theorem bts_append (a b : List Int) : bts (a ++ b) = bts a ++ bts b := by simp [bts]
theorem bts_len (a : List Int) : (bts a).length = a.length := by simp [bts]
theorem cv_all (x : S73) : (cv x).f1 ++ (cv x).f2 = bts x.f1 := by unfold cv; rw [← bts_append, List.take_append_drop]
theorem cv_len (x : S73) : (cv x).f1.length + (cv x).f2.length = x.f1.length := by rw [← List.length_append, cv_all, bts_len]

section
variable {k : Nat} {s : S68} {n : List UInt8}
theorem SI.rlen (h : SI k s) : (cvS s).f0.length < 1099511627776 := by
  have := h.len
  show (s.f0.map cv).length < _
  rw [List.length_map]; omega
theorem SI.rbegin (h : SI k s) (hk : k < 4611686018427387904) : r05_Store_begin (cvS s) = some (if (step s).f3 = true then 9 else 0, cvS (step s)) := by
  have h1 := h.armed; have h2 := h.ops
  unfold r05_Store_begin step
  rw [lt_, show (cvS s).f4 = s.f4 from rfl, show (cvS s).f2 = s.f2 from rfl, w64 (n := s.f4 + 1) (by omega) (by omega)]
  have j : ∀ (a : Int) (b : Bool) (o : Int), r05_Store_begin_j1 (cvS s) o a b = some (if b = true then 9 else 0, ⟨(cvS s).f0, (cvS s).f1, a, b, o⟩) := by intro a b o; cases b <;> rfl
  by_cases c : 0 < s.f2
  · rw [if_pos (by simpa using c), lt_, w64 (n := s.f2 - 1) (by omega) (by omega), j]
    simp only [if_pos c]
    rfl
  · rw [if_neg (by simpa using c), j]
    simp only [if_neg c]
    rfl
theorem rused_loop (h : SI k s) : ∀ (m i : Nat), i + m = s.f0.length → loop (fun q : Int × Int => r05_Store_Used_l1 (cvS s) q.1 q.2) ((used (s.f0.take i) : Int), (i : Int)) = some (used s.f0 : Int)
  | 0, i, hi => by
    refine loop_end ?_
    show r05_Store_Used_l1 (cvS s) _ (i : Int) = _
    unfold r05_Store_Used_l1
    rw [if_neg (by show ¬ decide ((i : Int) < ((s.f0.map cv).length : Int)) = true; rw [List.length_map]; simp only [decide_eq_true_eq]; omega), List.take_of_length_le (by omega)]
  | m + 1, i, hi => by
    have hu := h.use; have hro := h.room; have hlen := h.len
    have hx := List.getElem?_eq_getElem (l := s.f0) (i := i) (by omega)
    have ht : s.f0.take (i + 1) = s.f0.take i ++ [s.f0[i]] := by rw [List.take_add_one, hx]; rfl
    have hle : used (s.f0.take (i + 1)) ≤ used s.f0 := by
      have := used_append (s.f0.take (i + 1)) (s.f0.drop (i + 1))
      rw [List.take_append_drop] at this
      omega
    have hs : used (s.f0.take (i + 1)) = used (s.f0.take i) + (s.f0[i]).f1.length := by rw [ht, used_append, used_cons]; rfl
    have hy : (cvS s).f0[i]? = some (cv s.f0[i]) := by show (s.f0.map cv)[i]? = _; rw [List.getElem?_map, hx]; rfl
    have hcl := cv_len s.f0[i]
    have : r05_Store_Used_l1 (cvS s) (used (s.f0.take i) : Int) (i : Int) = some (.inl ((used (s.f0.take (i + 1)) : Int), ((i + 1 : Nat) : Int))) := by
      unfold r05_Store_Used_l1
      rw [if_pos (by show decide ((i : Int) < ((s.f0.map cv).length : Int)) = true; rw [List.length_map]; simp only [decide_eq_true_eq]; omega), at_int rfl hy]
      simp only [Option.bind_some, lt_]
      rw [w64 (n := ((cv s.f0[i]).f1.length : Int) + ((cv s.f0[i]).f2.length : Int)) (by omega) (by omega), w64 (n := (used (s.f0.take i) : Int) + _) (by omega) (by omega), w64 (by omega) (by omega), hs]
      congr 3
      omega
    rw [loop_nxt (b := fun q : Int × Int => r05_Store_Used_l1 (cvS s) q.1 q.2) this]
    exact rused_loop h m (i + 1) (by omega)
theorem SI.rUsed (h : SI k s) : r05_Store_Used (cvS s) = some (used s.f0 : Int) := by
  unfold r05_Store_Used
  have hl := rused_loop h s.f0.length 0 (by omega)
  rw [List.take_zero] at hl
  rw [show ((0 : Int), (0 : Int)) = ((used [] : Int), ((0 : Nat) : Int)) from rfl, hl]
  rfl
theorem SI.rat (h : SI k s) (n : List UInt8) : r05_Store_at (cvS s) n = some (if (get s.f0 n).isSome = true then (pos s.f0 n : Int) else -1) := by
  have hr := h.rise
  rcases place hr n with ⟨P, x, D, e, hx⟩ | ⟨P, D, e, hP, hD⟩
  · have hm : (cvS s).f0 = P.map cv ++ cv x :: D.map cv := by show s.f0.map cv = _; rw [e]; simp
    rw [e] at hr
    rw [rat_mid hm h.rlen (fun y hy => by obtain ⟨z, hz, rfl⟩ := List.mem_map.1 hy; exact hx ▸ bl_ne ((rise_mid hr).1 z hz)) hx, e, get_mid hx hr, pos_mid hx hr, List.length_map]
    rfl
  · rw [rat_gap h.rlen, e, get_gap hP hD]
    · rfl
    · intro y hy
      obtain ⟨z, hz, rfl⟩ := List.mem_map.1 hy
      rw [e] at hz
      rcases List.mem_append.1 hz with hz | hz
      · exact bl_ne (hP z hz)
      · exact fun e => bl_ne (hD z hz) (show z.f0 = n from e).symm
def rlookS (s : S68) (n : List UInt8) : Int := lookS s n
theorem SI.rRead (h : SI k s) (hn : n.length < 4611686018427387904) : r05_Store_Read (cvS s) n = some (bts (readS s n).1, (readS s n).2) := by
  unfold r05_Store_Read readS lookS
  rw [rForm_eq n hn]
  simp only [Option.bind_some]
  cases cf : formN n with
  | false => rfl
  | true =>
    rw [if_neg (by simp), show (cvS s).f3 = s.f3 from rfl]
    cases c3 : s.f3 with
    | true => rfl
    | false =>
      rw [if_neg (by simp), h.rat]
      simp only [Option.bind_some]
      have hr := h.rise
      rcases place hr n with ⟨P, x, D, e, hx⟩ | ⟨P, D, e, hP, hD⟩
      · have hx1 := h.one (x := x) (by rw [e]; simp)
        rw [e] at hr
        have e3 : get s.f0 n = some x := by rw [e]; exact get_mid hx hr
        have e2 : pos s.f0 n = P.length := by rw [e]; exact pos_mid hx hr
        have hy : (cvS s).f0[P.length]? = some (cv x) := by show (s.f0.map cv)[P.length]? = _; rw [e]; simp
        rw [e3, e2, show (if (some x).isSome = true then (P.length : Int) else -1) = (P.length : Int) from rfl, if_neg (by simp only [decide_eq_true_eq]; omega), at_int rfl hy]
        simp only [Option.bind_some]
        rw [chk_pos (by rw [cv_len]; simp only [maxLen]; omega), cv_all]
        rfl
      · rw [e] at hr
        have e3 : get s.f0 n = none := by rw [e]; exact get_gap hP hD
        rw [e3, show (if (none : Option S73).isSome = true then (pos s.f0 n : Int) else -1) = -1 from rfl, if_pos (by decide)]
        rfl
end
end Go.Proofs.Ytgjhiojkkjaloaa.P
