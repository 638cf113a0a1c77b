/- Reading rows whose elements own rows. -/
import Derived.Test.YtgjhiojkkjaloaaEl
namespace Go.Proofs.Ytgjhiojkkjaloaa.E
open Go Go.RowKit
set_option linter.unusedVariables false
set_option linter.unusedSimpArgs false

/-- an element with some header, which tells how long its row is -/
def kL {α β : Type} (dp : Kd (α × Hd)) (g : α → List β) : Kd α where
  sz := dp.sz
  V x cs := ∃ h : Hd, dp.V (x, h) cs ∧ (g x).length = h.2.1
  len h := by obtain ⟨q, h, _⟩ := h; exact dp.len h
  one h := by obtain ⟨q, h, _⟩ := h; exact dp.one h
section
variable {r w : World} {L : List HP} {α β : Type} {dp : Kd (α × Hd)} {d : Kd β} {e e' : TypeId} {g : α → List β} {A : Option Addr} {n c : Nat} {xs : List α} {ps : List (α × Hd)}
theorem rows_len : ∀ {ps : List (α × Hd)} {L : List HP} {S : Nat → Prop}, Sep (rows d e' g ps :: L) w S → ∀ p ∈ ps, (g p.1).length = p.2.2.1
  | [], L, S, h, p, hp => by cases hp
  | q :: ps, L, S, h, p, hp => by
    obtain ⟨S1, S2, h1, h2, hd, hA, hL⟩ := rows_cons.1 h
    rcases List.mem_cons.1 hp with rfl | hp
    · exact hA.1
    · exact rows_len hL p hp
theorem own2_rdL {S : Nat → Prop} (h : (own2 dp d e' g e A n c xs).P w S) : Rd (kL dp g) w A xs ∧ xs.length = n ∧ n ≤ c ∧ c ≤ maxLen := by
  obtain ⟨ps, S1, S2, h1, h2, hd, hA, hL⟩ := h
  have hln := rows_len hL
  obtain ⟨S3, S4, h3, h4, hd', hB, S5, S6, h5, h6, hd2, hp, _⟩ := hL
  have e1 : ps.map Prod.fst = xs := hp
  have hle := own_le hA
  have hn := hA.1
  refine ⟨?_, by rw [← e1, List.length_map]; exact hn, by rw [← hn]; exact hle.1, hle.2⟩
  have hr := own_rd hA
  subst e1
  intro hpos
  obtain ⟨ad, rfl, hra⟩ := hr (by simpa using hpos)
  refine ⟨ad, rfl, fun j x hx => ?_⟩
  rw [List.getElem?_map] at hx
  cases hq : ps[j]? with
  | none => rw [hq] at hx; cases hx
  | some q =>
    rw [hq] at hx
    cases hx
    obtain ⟨cs, hV, hc⟩ := hra j q hq
    exact ⟨cs, ⟨q.2, hV, hln q (List.mem_of_getElem? hq)⟩, hc⟩
theorem SH.rd2L (hS : SH r L w) (q : Nat) (h : L[q]? = some (own2 dp d e' g e A n c xs)) : Rd (kL dp g) w A xs ∧ xs.length = n ∧ n ≤ c ∧ c ≤ maxLen := by
  obtain ⟨S, hb⟩ := hS.get q h
  exact own2_rdL hb
theorem RdL.own2 (i : Nat) (hi : L[i]? = some (own2 dp d e' g e A n c xs)) (h : SH r L w) : RdL L (kL dp g) A n c xs := by
  obtain ⟨h1, h2, h3, h4⟩ := h.rd2L i hi
  refine ⟨h2, by omega, h4, fun w' S' h' => ?_⟩
  obtain ⟨S2, h2⟩ := SH.getL i hi h'
  exact (own2_rdL h2).1
theorem Lay.put {p p' : α × Hd} (hV : ∀ cs, dp.V p cs → dp.V p' cs) : ∀ {ps : List (α × Hd)} {i : Nat} {cs : List Value}, Lay dp ps cs → ps[i]? = some p → Lay dp (ps.set i p') cs
  | [], i, cs, h, hp => by simp at hp
  | q :: ps, 0, cs, ⟨c1, c2, e, hV1, hL⟩, hp => by cases hp; exact ⟨c1, c2, e, hV _ hV1, hL⟩
  | q :: ps, i + 1, cs, ⟨c1, c2, e, hV1, hL⟩, hp => ⟨c1, c2, e, hV1, Lay.put hV hL (by simpa using hp)⟩
/-- an element is told anew, its cells as they were -/
theorem own_put {p p' : α × Hd} {i : Nat} (h : SH r (own dp e A n c ps :: L) w) (hp : ps[i]? = some p) (hV : ∀ cs, dp.V p cs → dp.V p' cs) : SH r (own dp e A n c (ps.set i p') :: L) w := by
  refine h.imp fun S hS => ?_
  obtain ⟨hn, ⟨inner, hL, ho⟩, hSo⟩ := hS
  exact ⟨by simpa using hn, ⟨inner, Lay.put hV hL hp, by simpa using ho⟩, by simpa using hSo⟩
theorem own2_one {x : α} {A' : Option Addr} {n' c' : Nat} (h : SH r (own dp e A n c [(x, A', n', c')] :: own d e' A' n' c' (g x) :: L) w) : SH r (own2 dp d e' g e A n c [x] :: L) w :=
  own2_mk (ps := [(x, A', n', c')]) rfl (h.tl fun S hS => rows_cons.2 (hS.tl fun S hS => Sep.star (Ls := []) hS))
theorem SH.unoptP {f : Nat → α → HP} {k : Nat} {x : α} (h : SH r (optP f (some ⟨k, 0, none⟩) (some x) :: L) w) : SH r (f k x :: L) w := by
  obtain ⟨k', hk, h'⟩ := SH.unoptS h
  injection hk with hk
  injection hk with hk
  subst hk
  exact h'
end
end Go.Proofs.Ytgjhiojkkjaloaa.E
