/- The engine's rows of rows: a row whose elements own rows of their own. -/
import Derived.Test.YtgjhiojkkjaloaaEi
namespace Go.Proofs.Ytgjhiojkkjaloaa.E
open Go Go.RowKit
set_option linter.unusedVariables false
set_option linter.unusedSimpArgs false

abbrev Hd := Option Addr × Nat × Nat
/-- an element that is a slice, by its header -/
def kH (α : Type) : Kd (α × Hd) where
  sz := 1
  V p cs := cs = [.slice p.2.1 p.2.2.1 p.2.2.2]
  len h := by subst h; rfl
  one h := by subst h; intro v hv; simp at hv; subst hv; rfl
/-- an element, whatever its header -/
def kE {α : Type} (dp : Kd (α × Hd)) : Kd α where
  sz := dp.sz
  V x cs := ∃ h, dp.V (x, h) cs
  len h := by obtain ⟨q, h⟩ := h; exact dp.len h
  one h := by obtain ⟨q, h⟩ := h; exact dp.one h

section
variable {r w : World} {L : List HP} {α β : Type} {dp : Kd (α × Hd)} {d : Kd β} {e e' : TypeId} {g : α → List β} {A : Option Addr} {n c : Nat} {xs : List α} {ps : List (α × Hd)}

def inn (d : Kd β) (e' : TypeId) (g : α → List β) (p : α × Hd) : HP := own d e' p.2.1 p.2.2.1 p.2.2.2 (g p.1)
def rows (d : Kd β) (e' : TypeId) (g : α → List β) (ps : List (α × Hd)) : HP := star (ps.map (inn d e' g))
def own2 (dp : Kd (α × Hd)) (d : Kd β) (e' : TypeId) (g : α → List β) (e : TypeId) (A : Option Addr) (n c : Nat) (xs : List α) : HP :=
  ex fun ps : List (α × Hd) => star [own dp e A n c ps, rows d e' g ps, pure' (ps.map Prod.fst = xs)]

theorem SH.tl {B : HP} {L L' : List HP} (h : SH r (B :: L) w) (hi : ∀ S, Sep L w S → Sep L' w S) : SH r (B :: L') w := by
  obtain ⟨S1, S2, h1, h2, hd, hB, hL⟩ := h.sep
  exact ⟨h.os, h.tape, h.output, S1, S2, h1, h2, hd, hB, hi _ hL⟩
theorem SH.sh {L' : List HP} (h : SH r L w) (hi : ∀ S, Sep L w S → Sep L' w S) : SH r L' w := ⟨h.os, h.tape, h.output, hi _ h.sep⟩
theorem Sep.unstar : ∀ {Ls L : List HP} {S : Nat → Prop}, Sep (E.star Ls :: L) w S → Sep (Ls ++ L) w S
  | [], L, S, ⟨S1, S2, h1, h2, hd, hA, hL⟩ => hL.mono h2
  | B :: Ls, L, S, ⟨S1, S2, h1, h2, hd, ⟨T1, T2, g1, g2, gd, hB, hLs⟩, hL⟩ =>
    ⟨T1, fun k => T2 k ∨ S2 k, fun k q => h1 k (g1 k q), fun k q => q.elim (fun q => h1 k (g2 k q)) (fun q => h2 k q), fun k q q2 => q2.elim (gd k q) (fun q2 => hd k (g1 k q) q2), hB,
      Sep.unstar (Ls := Ls) ⟨T2, S2, fun _ => .inl, fun _ => .inr, fun k q q2 => hd k (g2 k q) q2, hLs, hL⟩⟩
theorem Sep.tl {B : HP} {L L' : List HP} {S : Nat → Prop} (h : Sep (B :: L) w S) (hi : ∀ S, Sep L w S → Sep L' w S) : Sep (B :: L') w S := by
  obtain ⟨S1, S2, h1, h2, hd, hB, hL⟩ := h
  exact ⟨S1, S2, h1, h2, hd, hB, hi _ hL⟩
theorem rows_cons {p : α × Hd} {S : Nat → Prop} : Sep (rows d e' g (p :: ps) :: L) w S ↔ Sep (inn d e' g p :: rows d e' g ps :: L) w S := by
  constructor
  · intro h
    have h1 : Sep (inn d e' g p :: (ps.map (inn d e' g) ++ L)) w S := Sep.unstar (Ls := (p :: ps).map (inn d e' g)) h
    exact h1.tl fun S hS => Sep.star hS
  · intro h
    have h1 : Sep (inn d e' g p :: (ps.map (inn d e' g) ++ L)) w S := h.tl fun S hS => Sep.unstar hS
    exact Sep.star (Ls := (p :: ps).map (inn d e' g)) h1
theorem rows_erase : ∀ {ps : List (α × Hd)} {i : Nat} {p : α × Hd} {L : List HP} {S : Nat → Prop}, ps[i]? = some p → (Sep (rows d e' g ps :: L) w S ↔ Sep (inn d e' g p :: rows d e' g (ps.eraseIdx i) :: L) w S)
  | [], i, p, L, S, h => by simp at h
  | q :: ps, 0, p, L, S, h => by
    simp only [List.getElem?_cons_zero, Option.some.injEq] at h
    subst h
    exact rows_cons
  | q :: ps, i + 1, p, L, S, h => by
    have ih : ∀ {S}, Sep (rows d e' g ps :: L) w S ↔ Sep (inn d e' g p :: rows d e' g (ps.eraseIdx i) :: L) w S := rows_erase (by simpa using h)
    rw [rows_cons, List.eraseIdx_cons_succ]
    constructor
    · intro h
      exact (Sep.swap (h.tl fun S hS => ih.1 hS)).tl fun S hS => rows_cons.2 hS
    · intro h
      exact (Sep.swap (h.tl fun S hS => rows_cons.1 hS)).tl fun S hS => ih.2 hS
theorem rows_set {i : Nat} {p : α × Hd} {S : Nat → Prop} (hi : i < ps.length) (h : Sep (inn d e' g p :: rows d e' g (ps.eraseIdx i) :: L) w S) : Sep (rows d e' g (ps.set i p) :: L) w S := by
  have e1 : (ps.set i p)[i]? = some p := List.getElem?_set_self hi
  rw [rows_erase e1, List.eraseIdx_set_eq]
  exact h

theorem fst_at {i : Int} {x : α} (hps : ps.map Prod.fst = xs) (hx : at_ xs i = some x) : ∃ A' n' c', at_ ps i = some (x, A', n', c') := by
  have h := (at_some hx).2.2
  have h0 := (at_some hx).1
  rw [← hps, List.getElem?_map] at h
  cases hq : ps[i.toNat]? with
  | none => rw [hq] at h; cases h
  | some q => rw [hq] at h; cases h; exact ⟨q.2.1, q.2.2.1, q.2.2.2, by unfold at_; rw [if_pos h0]; exact hq⟩

theorem own2_open (h : SH r (own2 dp d e' g e A n c xs :: L) w) : ∃ ps, ps.map Prod.fst = xs ∧ SH r (own dp e A n c ps :: rows d e' g ps :: L) w := by
  obtain ⟨ps, h⟩ := h.unex
  have h1 : SH r (own dp e A n c ps :: rows d e' g ps :: pure' (ps.map Prod.fst = xs) :: L) w := h.unstar
  obtain ⟨S, hS⟩ := h1.get 2 rfl
  exact ⟨ps, hS, h1.tl fun S hS => hS.tl fun S hS => by
    obtain ⟨S1, S2, h1, h2, hd, hA, hL⟩ := hS
    exact hL.mono h2⟩
theorem own2_mk (hps : ps.map Prod.fst = xs) (h : SH r (own dp e A n c ps :: rows d e' g ps :: L) w) : SH r (own2 dp d e' g e A n c xs :: L) w := by
  refine SH.ex ps (SH.star (Ls := [own dp e A n c ps, rows d e' g ps, pure' (ps.map Prod.fst = xs)]) (h.tl fun S hS => hS.tl fun S hS => ?_))
  exact ⟨fun _ => False, S, fun _ h => h.elim, fun _ h => h, fun _ h => h.elim, hps, hS⟩

/-- an element is taken out -/
theorem own2_out {i : Int} {x : α} (h : SH r (own2 dp d e' g e A n c xs :: L) w) (hx : at_ xs i = some x) :
    ∃ ps A' n' c', ps.map Prod.fst = xs ∧ at_ ps i = some (x, A', n', c') ∧ SH r (own dp e A n c ps :: own d e' A' n' c' (g x) :: rows d e' g (ps.eraseIdx i.toNat) :: L) w := by
  obtain ⟨ps, hps, h⟩ := own2_open h
  obtain ⟨A', n', c', hp⟩ := fst_at hps hx
  exact ⟨ps, A', n', c', hps, hp, h.tl fun S hS => (rows_erase (at_some hp).2.2).1 hS⟩
/-- and put back, as it was -/
theorem own2_in0 {i : Int} {x : α} {A' : Option Addr} {n' c' : Nat} (hps : ps.map Prod.fst = xs) (hp : at_ ps i = some (x, A', n', c')) (h : SH r (own dp e A n c ps :: own d e' A' n' c' (g x) :: rows d e' g (ps.eraseIdx i.toNat) :: L) w) :
    SH r (own2 dp d e' g e A n c xs :: L) w := own2_mk hps (h.tl fun S hS => (rows_erase (at_some hp).2.2).2 hS)
theorem own2_in {i : Int} {p : α × Hd} {x' : α} {A' : Option Addr} {n' c' : Nat} (hps : ps.map Prod.fst = xs) (hp : at_ ps i = some p) (h : SH r (own dp e A n c (ps.set i.toNat (x', A', n', c')) :: own d e' A' n' c' (g x') :: rows d e' g (ps.eraseIdx i.toNat) :: L) w) :
    SH r (own2 dp d e' g e A n c (xs.set i.toNat x') :: L) w := by
  refine own2_mk (ps := ps.set i.toNat (x', A', n', c')) ?_ (h.tl fun S hS => rows_set (List.getElem?_eq_some_iff.1 (at_some hp).2.2).1 hS)
  rw [List.map_set, hps]

theorem Lay.fst {dp : Kd (α × Hd)} : ∀ {ps : List (α × Hd)} {cs : List Value}, Lay dp ps cs → Lay (kE dp) (ps.map Prod.fst) cs
  | [], _, h => h
  | p :: ps, _, ⟨c1, c2, e, hV, hL⟩ => ⟨c1, c2, e, ⟨p.2, hV⟩, Lay.fst hL⟩
theorem Rd.fst {w : World} (hps : ps.map Prod.fst = xs) (h : Rd dp w A ps) : Rd (kE dp) w A xs := by
  subst hps
  intro hpos
  obtain ⟨ad, rfl, hr⟩ := h (by simpa using hpos)
  refine ⟨ad, rfl, fun j x hx => ?_⟩
  rw [List.getElem?_map] at hx
  cases hq : ps[j]? with
  | none => rw [hq] at hx; cases hx
  | some q =>
    rw [hq] at hx
    cases hx
    obtain ⟨cs, hV, hc⟩ := hr j q hq
    exact ⟨cs, ⟨q.2, hV⟩, hc⟩
/-- what it reads as, opened or not -/
theorem SH.rdp (hS : SH r L w) (q : Nat) (h : L[q]? = some (own dp e A n c ps)) (hps : ps.map Prod.fst = xs) : Rd (kE dp) w A xs ∧ xs.length = n ∧ n ≤ c ∧ c ≤ maxLen := by
  obtain ⟨h1, h2, h3, h4⟩ := hS.rd q h
  exact ⟨h1.fst hps, by rw [← hps, List.length_map]; exact h2, h3, h4⟩
theorem SH.rd2 (hS : SH r L w) (q : Nat) (h : L[q]? = some (own2 dp d e' g e A n c xs)) : Rd (kE dp) w A xs ∧ xs.length = n ∧ n ≤ c ∧ c ≤ maxLen := by
  obtain ⟨S, ps, S1, S2, h1, h2, hd, hA, S3, S4, h3, h4, hd', hB, S5, S6, h5, h6, hd2, hp, _⟩ := hS.get q h
  have := own_le hA
  have e1 : ps.map Prod.fst = xs := hp
  refine ⟨(own_rd hA).fst e1, by rw [← e1, List.length_map]; exact hA.1, by rw [← hA.1]; exact this.1, this.2⟩

/-- none yet: as many nil rows as one likes -/
theorem rows_nil {z : α} (hz : g z = []) : ∀ (m : Nat), SH r L w → SH r (rows d e' g (List.replicate m (z, none, 0, 0)) :: L) w
  | 0, h => h.sh fun S hS => Sep.star (Ls := []) hS
  | m + 1, h => by
    have h1 := SH.nil_own (d := d) (e := e') (rows_nil hz m h)
    refine h1.sh fun S hS => ?_
    rw [List.replicate_succ]
    refine rows_cons.2 ?_
    unfold inn
    simp only
    rw [hz]
    exact hS
theorem own2_make {z : α} (hz : g z = []) {m : Nat} (h : SH r (own dp e A n c (List.replicate m (z, none, 0, 0)) :: L) w) : SH r (own2 dp d e' g e A n c (List.replicate m z) :: L) w := by
  refine own2_mk (ps := List.replicate m (z, none, 0, 0)) (by simp) ?_
  have h1 := rows_nil (d := d) (e' := e') hz m h
  exact h1.sh fun S hS => hS.swap
theorem own2_nil (h : SH r L w) : SH r (own2 dp d e' g e none 0 0 [] :: L) w := own2_mk (ps := []) rfl ((SH.nil_own h).tl fun S hS => Sep.star (Ls := []) hS)

/-- all of it frozen: rows of what is frozen -/
theorem rows_freeze : ∀ {ps : List (α × Hd)} {Z : Nat → Prop} {wz : World}, SH r (rows d e' g ps :: zone Z wz :: L) w → ∃ Z' wz', SH r (zone Z' wz' :: L) w ∧ (∀ p ∈ ps, Imm Z' wz' d p.2.1 p.2.2.1 p.2.2.2 (g p.1)) ∧ Sub Z wz Z' wz'
  | [], Z, wz, h => ⟨Z, wz, h.tail, fun p hp => (by cases hp), Sub.refl _ _⟩
  | p :: ps, Z, wz, h => by
    have h1 : SH r (rows d e' g ps :: inn d e' g p :: zone Z wz :: L) w := h.sh fun S hS => (rows_cons.1 hS).swap
    have h2 : SH r (inn d e' g p :: zone Z wz :: rows d e' g ps :: L) w := h1.sh fun S hS => (hS.swap).tl fun S hS => hS.swap
    obtain ⟨Z1, wz1, h3, hI, hs1⟩ := SH.freeze h2
    obtain ⟨Z2, wz2, h4, hIs, hs2⟩ := rows_freeze (ps := ps) (h3.sh fun S hS => hS.swap)
    refine ⟨Z2, wz2, h4, fun q hq => ?_, hs1.trans hs2⟩
    rcases List.mem_cons.1 hq with rfl | hq
    · exact hI.sub hs2
    · exact hIs q hq
theorem SH.freeze2 {γ : Type} {d : Kd γ} {A : Option Addr} {n c : Nat} {xs : List (List γ)} {Z : Nat → Prop} {wz : World} (h : SH r (own2 (kH (List γ)) d e' (fun x => x) e A n c xs :: zone Z wz :: L) w) :
    ∃ Z' wz', SH r (zone Z' wz' :: L) w ∧ Imm Z' wz' (kM Z' wz' d) A n c xs ∧ Sub Z wz Z' wz' := by
  obtain ⟨ps, hps, h1⟩ := own2_open h
  have h2 : SH r (rows d e' (fun x => x) ps :: zone Z wz :: own (kH (List γ)) e A n c ps :: L) w := h1.sh fun S hS => (hS.swap).tl fun S hS => hS.swap
  obtain ⟨Z1, wz1, h3, hI, hs1⟩ := rows_freeze h2
  obtain ⟨Z2, wz2, h4, hO, hs2⟩ := SH.freeze (h3.sh fun S hS => hS.swap)
  refine ⟨Z2, wz2, h4, ?_, hs1.trans hs2⟩
  subst hps
  refine ⟨by rw [List.length_map]; exact hO.ln, by rw [List.length_map]; exact hO.le, hO.mx, fun hpos => ?_⟩
  obtain ⟨ad, rfl, hz, hr⟩ := hO.rd (by simpa using hpos)
  refine ⟨ad, rfl, hz, fun j x hx => ?_⟩
  rw [List.getElem?_map] at hx
  cases hq : ps[j]? with
  | none => rw [hq] at hx; cases hx
  | some q =>
    rw [hq] at hx
    cases hx
    obtain ⟨cs, hV, hc⟩ := hr j q hq
    exact ⟨cs, ⟨_, _, _, hV, (hI q (List.mem_of_getElem? hq)).sub hs2⟩, hc⟩
end
end Go.Proofs.Ytgjhiojkkjaloaa.E
