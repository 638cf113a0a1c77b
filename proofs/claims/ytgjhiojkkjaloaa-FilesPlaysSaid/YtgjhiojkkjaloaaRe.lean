/- Files by their names: taken, laid, struck. What each call of a store comes to. -/
import Derived.Test.YtgjhiojkkjaloaaRd
namespace Go.Proofs.Ytgjhiojkkjaloaa.P
open Go Go.RowKit Go.Proofs.Ytgjhiojkkjaloaa.E Go.Proofs.Ytgjhiojkkjaloaa.M
set_option linter.unusedVariables false

def get (l : List S73) (n : List UInt8) : Option S73 := l.find? fun x => x.f0 == n
def put : List S73 → S73 → List S73
  | [], x => [x]
  | y :: l, x => if Op.bytesLess y.f0 x.f0 = true then y :: put l x else if y.f0 = x.f0 then x :: l else x :: y :: l
def del (l : List S73) (n : List UInt8) : List S73 := l.filter fun x => !(x.f0 == n)

theorem get_mid {P D : List S73} {x : S73} {n : List UInt8} (hn : x.f0 = n) (h : Rise (P ++ x :: D)) : get (P ++ x :: D) n = some x := by
  subst hn
  unfold get
  rw [List.find?_append, List.find?_eq_none.2 (fun y hy => by simpa using bl_ne ((rise_mid h).1 y hy))]
  simp
theorem get_gap {P D : List S73} {n : List UInt8} (hP : ∀ y ∈ P, Op.bytesLess y.f0 n = true) (hD : ∀ y ∈ D, Op.bytesLess n y.f0 = true) : get (P ++ D) n = none := by
  unfold get
  rw [List.find?_eq_none]
  intro y hy
  rcases List.mem_append.1 hy with h | h
  · simpa using bl_ne (hP y h)
  · simpa using fun e => bl_ne (hD y h) e.symm
theorem put_at : ∀ {P D : List S73} {x : S73}, (∀ y ∈ P, Op.bytesLess y.f0 x.f0 = true) → put (P ++ D) x = P ++ put D x
  | [], D, x, h => rfl
  | y :: P, D, x, h => by
    show put (y :: (P ++ D)) x = _
    rw [put, if_pos (h y (List.mem_cons_self ..)), put_at fun z hz => h z (List.mem_cons_of_mem _ hz)]
    rfl
theorem put_mid {P D : List S73} {x y : S73} (hn : x.f0 = y.f0) (h : Rise (P ++ x :: D)) : put (P ++ x :: D) y = P ++ y :: D := by
  rw [put_at fun z hz => hn ▸ (rise_mid h).1 z hz, put, if_neg (by rw [hn, bl_irr]; simp), if_pos hn]
theorem put_gap {P D : List S73} {y : S73} (hP : ∀ z ∈ P, Op.bytesLess z.f0 y.f0 = true) (hD : ∀ z ∈ D, Op.bytesLess y.f0 z.f0 = true) : put (P ++ D) y = P ++ y :: D := by
  rw [put_at hP]
  congr 1
  cases D with
  | nil => rfl
  | cons z D =>
    have := hD z (List.mem_cons_self ..)
    rw [put, if_neg (by rw [bl_asym this]; simp), if_neg fun e => bl_ne this e.symm]
theorem del_mid {P D : List S73} {x : S73} {n : List UInt8} (hn : x.f0 = n) (h : Rise (P ++ x :: D)) : del (P ++ x :: D) n = P ++ D := by
  subst hn
  unfold del
  rw [List.filter_append, List.filter_cons_of_neg (by simp), List.filter_eq_self.2, List.filter_eq_self.2]
  · intro y hy; simpa using fun e : y.f0 = x.f0 => bl_ne ((rise_mid h).2 y hy) e.symm
  · intro y hy; simpa using bl_ne ((rise_mid h).1 y hy)
theorem del_gap {P D : List S73} {n : List UInt8} (hP : ∀ y ∈ P, Op.bytesLess y.f0 n = true) (hD : ∀ y ∈ D, Op.bytesLess n y.f0 = true) : del (P ++ D) n = P ++ D := by
  unfold del
  rw [List.filter_eq_self]
  intro y hy
  rcases List.mem_append.1 hy with h | h
  · simpa using bl_ne (hP y h)
  · simpa using fun e : y.f0 = n => bl_ne (hD y h) e.symm

theorem put_mem {l : List S73} {x y : S73} (h : y ∈ put l x) : y = x ∨ y ∈ l := by
  induction l with
  | nil => exact .inl (by simpa [put] using h)
  | cons z l ih =>
    unfold put at h
    split at h
    · rcases List.mem_cons.1 h with rfl | h
      · exact .inr (List.mem_cons_self ..)
      · rcases ih h with h | h
        · exact .inl h
        · exact .inr (List.mem_cons_of_mem _ h)
    · split at h
      · rcases List.mem_cons.1 h with rfl | h
        · exact .inl rfl
        · exact .inr (List.mem_cons_of_mem _ h)
      · rcases List.mem_cons.1 h with rfl | h
        · exact .inl rfl
        · exact .inr h
theorem put_rise {l : List S73} (h : Rise l) (x : S73) : Rise (put l x) := by
  rcases place h x.f0 with ⟨P, y, D, rfl, hy⟩ | ⟨P, D, rfl, hP, hD⟩
  · rw [put_mid hy h]; exact rise_same hy h
  · rw [put_gap hP hD]; exact rise_put h hP hD
theorem del_rise {l : List S73} (h : Rise l) (n : List UInt8) : Rise (del l n) := List.Pairwise.filter _ h
theorem get_mem {l : List S73} {n : List UInt8} {x : S73} (h : get l n = some x) : x ∈ l ∧ x.f0 = n := ⟨List.mem_of_find?_eq_some h, by simpa using List.find?_some h⟩
theorem del_mem {l : List S73} {n : List UInt8} {x : S73} (h : x ∈ del l n) : x ∈ l := (List.mem_filter.1 h).1
theorem get_put {l : List S73} (h : Rise l) (x : S73) (n : List UInt8) : get (put l x) n = if x.f0 = n then some x else get l n := by
  have e : ∀ P D : List S73, x.f0 ≠ n → get (P ++ x :: D) n = get (P ++ D) n := by
    intro P D hne
    unfold get
    rw [List.find?_append, List.find?_append, List.find?_cons_of_neg (by simpa using hne)]
  rcases place h x.f0 with ⟨P, y, D, rfl, hy⟩ | ⟨P, D, rfl, hP, hD⟩
  · rw [put_mid hy h]
    split
    · rename_i e; exact get_mid e (rise_same hy h)
    · rename_i hne
      rw [e P D hne]
      unfold get
      rw [List.find?_append, List.find?_append, List.find?_cons_of_neg (by simpa [hy] using hne)]
  · rw [put_gap hP hD]
    split
    · rename_i e; exact get_mid e (rise_put h hP hD)
    · rename_i hne; exact e P D hne
theorem get_del {l : List S73} (h : Rise l) (m n : List UInt8) : get (del l m) n = if m = n then none else get l n := by
  unfold get del
  split
  · rename_i e
    subst e
    rw [List.find?_eq_none]
    intro x hx
    simpa using (List.mem_filter.1 hx).2
  · rename_i hne
    rw [List.find?_filter]
    congr 1
    funext x
    by_cases hx : x.f0 = n
    · simp [hx]; exact fun e => hne e.symm
    · simp [hx]
/-- files that rise, and are found alike, are the same -/
theorem get_ext : ∀ {l m : List S73}, Rise l → Rise m → (∀ n, get l n = get m n) → l = m
  | [], [], _, _, _ => rfl
  | [], y :: m, _, _, h => by have := h y.f0; simp [get] at this
  | x :: l, [], _, _, h => by have := h x.f0; simp [get] at this
  | x :: l, y :: m, hl, hm, h => by
    have h1 := h x.f0
    have h2 := h y.f0
    have g1 : get (x :: l) x.f0 = some x := by simp [get]
    have g2 : get (y :: m) y.f0 = some y := by simp [get]
    rw [g1] at h1
    rw [g2] at h2
    have hxm := get_mem h1.symm
    have hyl := get_mem h2
    have hxy : x = y := by
      rcases List.mem_cons.1 hxm.1 with e | e
      · exact e
      · rcases List.mem_cons.1 hyl.1 with e' | e'
        · exact e'.symm
        · have a1 := (List.pairwise_cons.1 hm).1 x e
          have a2 := (List.pairwise_cons.1 hl).1 y e'
          have := bl_asym a1
          rw [a2] at this
          cases this
    subst hxy
    congr 1
    refine get_ext (List.pairwise_cons.1 hl).2 (List.pairwise_cons.1 hm).2 fun n => ?_
    have hn := h n
    by_cases e : x.f0 = n
    · subst e
      have q : ∀ k : List S73, Rise (x :: k) → get k x.f0 = none := fun k hk => List.find?_eq_none.2 fun z hz => by
        have := bl_ne ((List.pairwise_cons.1 hk).1 z hz)
        simpa using fun e : z.f0 = x.f0 => this e.symm
      rw [q l hl, q m hm]
    · simpa [get, e] using hn
theorem used_put {l : List S73} (h : Rise l) (x : S73) : used (put l x) + ((get l x.f0).getD ⟨x.f0, [], 0⟩).f1.length = used l + x.f1.length := by
  rcases place h x.f0 with ⟨P, y, D, rfl, hy⟩ | ⟨P, D, rfl, hP, hD⟩
  · rw [put_mid hy h, get_mid hy h]
    simp only [used_append, used_cons, Option.getD_some]
    omega
  · rw [put_gap hP hD, get_gap hP hD]
    simp only [used_append, used_cons, Option.getD_none, List.length_nil]
    omega
theorem used_del {l : List S73} (h : Rise l) (n : List UInt8) : used (del l n) + ((get l n).getD ⟨n, [], 0⟩).f1.length = used l := by
  rcases place h n with ⟨P, y, D, rfl, hy⟩ | ⟨P, D, rfl, hP, hD⟩
  · rw [del_mid hy h, get_mid hy h]
    simp only [used_append, used_cons, Option.getD_some]
    omega
  · rw [del_gap hP hD, get_gap hP hD]
    rfl
theorem len_put {l : List S73} (h : Rise l) (x : S73) : (put l x).length = if (get l x.f0).isSome then l.length else l.length + 1 := by
  rcases place h x.f0 with ⟨P, y, D, rfl, hy⟩ | ⟨P, D, rfl, hP, hD⟩
  · rw [put_mid hy h, get_mid hy h]; simp
  · rw [put_gap hP hD, get_gap hP hD]; simp; omega
theorem len_del {l : List S73} (h : Rise l) (n : List UInt8) : (del l n).length + (if (get l n).isSome then 1 else 0) = l.length := by
  rcases place h n with ⟨P, y, D, rfl, hy⟩ | ⟨P, D, rfl, hP, hD⟩
  · rw [del_mid hy h, get_mid hy h]; simp; omega
  · rw [del_gap hP hD, get_gap hP hD]; simp

/-! a store -/
def step (s : S68) : S68 := ⟨s.f0, s.f1, if 0 < s.f2 then s.f2 - 1 else s.f2, if 0 < s.f2 then s.f2 - 1 == 0 else s.f3, s.f4 + 1⟩
structure SI (k : Nat) (s : S68) : Prop where
  rise : Rise s.f0
  form : ∀ x ∈ s.f0, formN x.f0 = true
  len : s.f0.length ≤ 500
  room : 1 ≤ s.f1 ∧ s.f1 ≤ 16777216
  use : (used s.f0 : Int) ≤ s.f1
  sure : ∀ x ∈ s.f0, 0 ≤ x.f2 ∧ x.f2 ≤ x.f1.length
  byt : ∀ x ∈ s.f0, ∀ b ∈ x.f1, 0 ≤ b ∧ b < 256
  armed : 0 ≤ s.f2 ∧ s.f2 ≤ 9223372036854775807
  ops : 0 ≤ s.f4 ∧ s.f4 ≤ k
def lookS (s : S68) (n : List UInt8) : Int := if formN n = true then (if s.f3 = true then 9 else 0) else 1

section
variable {k : Nat} {s : S68} {n : List UInt8}
theorem SI.find (h : SI k s) (n : List UInt8) : files_Store_find s n = some ((pos s.f0 n : Int), has s.f0 n) := find_eq s h.rise (by have := h.len; omega) n
theorem SI.one (h : SI k s) {x : S73} (hx : x ∈ s.f0) : (x.f1.length : Int) ≤ 16777216 := by
  have := used_mem hx; have := h.use; have := h.room; omega
theorem SI.Used (h : SI k s) : files_Store_Used (some s) = some (used s.f0 : Int) := Used_eq s (by have := h.len; omega) (by have := h.use; have := h.room; omega)
theorem SI.Names (h : SI k s) : files_Store_List (some s) = some (s.f0.map S73.f0) := List_eq s (by have := h.len; omega)
theorem SI.begin (h : SI k s) (hk : k < 4611686018427387904) : files_Store_begin s = some (!(step s).f3, step s) := by
  have h1 := h.armed; have h2 := h.ops
  unfold files_Store_begin step
  rw [lt_, w64 (n := s.f4 + 1) (by omega) (by omega)]
  by_cases c : 0 < s.f2
  · rw [if_pos (by simpa using c), lt_, w64 (n := s.f2 - 1) (by omega) (by omega)]
    simp only [if_pos c]
    rfl
  · rw [if_neg (by simpa using c)]
    simp only [if_neg c]
    rfl
theorem SI.stepped (h : SI k s) : SI (k + 1) (step s) := by
  refine ⟨h.rise, h.form, h.len, h.room, h.use, h.sure, h.byt, ?_, ?_⟩
  · have := h.armed; simp only [P.step]; split <;> omega
  · have := h.ops; simp only [P.step]; omega
theorem SI.mono (h : SI k s) {k' : Nat} (hk : k ≤ k') : SI k' s := ⟨h.rise, h.form, h.len, h.room, h.use, h.sure, h.byt, h.armed, by have := h.ops; omega⟩
theorem look_eq (s : S68) (hn : n.length < 4611686018427387904) : files_Store_look (some s) n = some (lookS s n) := by
  show (files_Form n).bind _ = _
  rw [Form_eq n hn]
  simp only [Option.bind_some]
  unfold lookS
  cases formN n with
  | true => cases s.f3 <;> rfl
  | false => rfl
theorem clone_eq (a : List Int) (h : a.length ≤ 140737488355328) : slices_Clone_byte_byte a = some a := by
  unfold slices_Clone_byte_byte
  rw [chk_pos (by simp only [List.length_nil]; omega)]
  cases a with
  | nil => simp [nilsplit]
  | cons b a => simp [nilsplit]

/-! Read -/
def readS (s : S68) (n : List UInt8) : List Int × Int := if lookS s n = 0 then (match get s.f0 n with | some x => (x.f1, 0) | none => ([], 5)) else ([], lookS s n)
theorem SI.Read (h : SI k s) (hn : n.length < 4611686018427387904) : files_Store_Read (some s) n = some (readS s n) := by
  show (files_Store_look (some s) n).bind _ = _
  rw [look_eq s hn]
  simp only [Option.bind_some]
  unfold readS
  by_cases c : lookS s n = 0
  · rw [if_neg (by simpa using c), if_pos c, h.find]
    simp only [Option.bind_some]
    have hr := h.rise
    have hone := fun x => h.one (x := x)
    rcases place hr n with ⟨P, x, D, e, hx⟩ | ⟨P, D, e, hP, hD⟩
    · rw [e] at hr hone ⊢
      have hx1 := hone x (by simp)
      rw [has_mid hx hr, pos_mid hx hr, get_mid hx hr, if_neg (by simp), at_int rfl (show (P ++ x :: D)[P.length]? = some x by simp)]
      simp only [Option.bind_some]
      rw [clone_eq _ (by omega)]
      rfl
    · rw [e] at hr ⊢
      rw [has_gap hP hD, get_gap hP hD, if_pos (by simp)]
  · rw [if_pos (by simpa using c), if_neg c]
theorem Read_nil : files_Store_Read none n = some ([], 5) := rfl

/-! Append -/
def appS (s : S68) (n : List UInt8) (p : List Int) : Int × S68 :=
  if lookS s n = 0 then
    if s.f1 - used s.f0 < p.length ∨ ((get s.f0 n).isNone = true ∧ 500 ≤ s.f0.length) then (10, s)
    else (if (P.step s).f3 = true then 9 else 0, { P.step s with f0 := put s.f0 ⟨n, ((get s.f0 n).getD ⟨n, [], 0⟩).f1 ++ p, ((get s.f0 n).getD ⟨n, [], 0⟩).f2⟩ })
  else (lookS s n, s)
theorem app_j1 {y : Int × Bool} {b : Bool} {p : List Int} (h : b = true) : files_Store_Append_j1 n p s y b = some (10, some s) := by subst h; rfl
theorem app_tail {l : List S73} {P D : List S73} {x : S73} {p : List Int} {b : Bool} {y : Bool} {r : S68} (hl : l = P ++ x :: D) (hb : x.f1.length + p.length ≤ 140737488355328) :
    files_Store_Append_j2 p ((P.length : Int), b) (y, r) l = some (if y = true then 0 else 9, some ⟨P ++ ⟨x.f0, x.f1 ++ p, x.f2⟩ :: D, r.f1, r.f2, r.f3, r.f4⟩) := by
  subst hl
  unfold files_Store_Append_j2
  rw [at_int rfl (show (P ++ x :: D)[P.length]? = some x by simp)]
  simp only [Option.bind_some]
  rw [chk_pos (by omega), Int.toNat_natCast, show (P ++ x :: D).set P.length (⟨x.f0, x.f1 ++ p, x.f2⟩ : S73) = P ++ ⟨x.f0, x.f1 ++ p, x.f2⟩ :: D by simp]
  cases y <;> rfl
theorem SI.Append (h : SI k s) (hk : k < 4611686018427387904) (hn : n.length < 4611686018427387904) (p : List Int) : files_Store_Append (some s) n p = some ((appS s n p).1, some (appS s n p).2) := by
  have hu := h.use; have hro := h.room; have hlen := h.len
  show (files_Store_look (some s) n).bind _ = _
  rw [look_eq s hn]
  simp only [Option.bind_some]
  unfold appS
  by_cases c : lookS s n = 0
  · rw [if_neg (by simpa using c), if_pos c, h.find]
    simp only [Option.bind_some]
    rw [h.Used]
    simp only [Option.bind_some]
    rw [lt_, w64 (by omega) (by omega)]
    by_cases c1 : s.f1 - used s.f0 < p.length
    · rw [if_pos (by simpa using c1), if_pos (.inl c1), app_j1 rfl]
    · rw [if_neg (by simpa using c1)]
      have hb := h.begin hk
      have hr := h.rise
      have hone := fun x => h.one (x := x)
      rcases place hr n with ⟨P, x, D, e, hx⟩ | ⟨P, D, e, hP, hD⟩
      · rw [e] at hr
        have hx1 := hone x (by rw [e]; simp)
        have e1 : has s.f0 n = true := by rw [e]; exact has_mid hx hr
        have e2 : pos s.f0 n = P.length := by rw [e]; exact pos_mid hx hr
        have e3 : get s.f0 n = some x := by rw [e]; exact get_mid hx hr
        rw [e1, e2, if_neg (by simp)]
        unfold files_Store_Append_j1
        rw [if_neg (by simp), hb]
        simp only [Option.bind_some]
        rw [if_neg (by simp), e3, if_neg (by simp [c1]), show (step s).f0 = P ++ x :: D from e, app_tail rfl (by omega), e, Option.getD_some, put_mid hx hr]
        subst hx
        cases (step s).f3 <;> rfl
      · rw [e] at hr
        have e1 : has s.f0 n = false := by rw [e]; exact has_gap hP hD
        have e2 : pos s.f0 n = P.length := by rw [e]; exact pos_gap hP hD
        have e3 : get s.f0 n = none := by rw [e]; exact get_gap hP hD
        rw [e1, e2, if_pos (by simp)]
        by_cases c2 : 500 ≤ s.f0.length
        · rw [app_j1 (by simp; omega), e3, if_pos (by simp [c2])]
        · unfold files_Store_Append_j1
          rw [if_neg (by simp; omega), hb]
          simp only [Option.bind_some]
          have hl : s.f0.length = P.length + D.length := by rw [e]; simp
          have hins : ins_ (step s).f0 (P.length : Int) [(⟨n, [], 0⟩ : S73)] = some (P ++ ⟨n, [], 0⟩ :: D) := by
            unfold ins_
            rw [if_pos ⟨by omega, by show (P.length : Int) ≤ (s.f0.length : Int); omega, by simp, by show (s.f0.length + 1) * 48 ≤ _; omega⟩, show (step s).f0 = P ++ D from e, Int.toNat_natCast, List.take_left, List.drop_left]
            simp
          rw [if_pos (by simp), hins]
          simp only [Option.bind_some]
          rw [e3, if_neg (by simp [c1]; omega), app_tail rfl (by simp only [List.length_nil]; omega), e, Option.getD_none, put_gap hP hD]
          cases (step s).f3 <;> rfl
  · rw [if_pos (by simpa using c), if_neg c]
theorem Append_nil {p : List Int} : files_Store_Append none n p = some (5, none) := rfl
end
end Go.Proofs.Ytgjhiojkkjaloaa.P
