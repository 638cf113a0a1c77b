/- Stores whose power stays on; the document's example. -/
import Derived.Test.YtgjhiojkkjaloaaRf
import Derived.Test.YtgjhiojkkjaloaaDf
import Derived.Test.YtgjhiojkkjaloaaEh
namespace Go.Proofs.Ytgjhiojkkjaloaa.P
open Go Go.RowKit Go.Proofs.Ytgjhiojkkjaloaa.E Go.Proofs.Ytgjhiojkkjaloaa.M
set_option linter.unusedVariables false

/-- a store whose power is on, and stays so -/
def onS (l : List S73) (room : Int) (ops : Int) : S68 := ⟨l, room, 0, false, ops⟩
theorem step_on (l : List S73) (room ops : Int) : step (onS l room ops) = onS l room (ops + 1) := rfl
theorem look_on {l : List S73} {room ops : Int} {n : List UInt8} (h : formN n = true) : lookS (onS l room ops) n = 0 := by unfold lookS onS; rw [if_pos h]; rfl
theorem app_on {l : List S73} {room ops : Int} {n : List UInt8} {p : List Int} (h : formN n = true) (hr : (used l : Int) + p.length ≤ room) (hl : l.length < 500) :
    appS (onS l room ops) n p = (0, onS (put l ⟨n, ((get l n).getD ⟨n, [], 0⟩).f1 ++ p, ((get l n).getD ⟨n, [], 0⟩).f2⟩) room (ops + 1)) := by
  unfold appS
  rw [if_pos (look_on h), if_neg]
  · rfl
  · rintro (q | ⟨_, q⟩)
    · have : room - used l < p.length := q
      omega
    · have : 500 ≤ l.length := q
      omega
theorem chg_on {l : List S73} {room ops : Int} {n : List UInt8} {f : S73 → List S73} {x : S73} (h : formN n = true) (hx : get l n = some x) : chgS (onS l room ops) n f = (0, onS (f x) room (ops + 1)) := by
  unfold chgS
  rw [if_pos (look_on h), show get (onS l room ops).f0 n = some x from hx]
  rfl
theorem syn_on {l : List S73} {room ops : Int} {n : List UInt8} {x : S73} (h : formN n = true) (hx : get l n = some x) : synS (onS l room ops) n = (0, onS (put l ⟨x.f0, x.f1, x.f1.length⟩) room (ops + 1)) := chg_on h hx
theorem ren_on {l : List S73} {room ops : Int} {a b : List UInt8} {x : S73} (h : formN a = true) (hb : formN b = true) (hx : get l a = some x) : renS (onS l room ops) a b = (0, onS (put (del l a) ⟨b, x.f1, x.f2⟩) room (ops + 1)) := by
  unfold renS
  rw [if_pos h, if_pos (look_on hb)]
  exact chg_on h hx
theorem New_eq {r : Int} (h : 1 ≤ r) (h' : r ≤ 16777216) : files_New r = some (some (onS [] r 0), 0) := by
  unfold files_New
  rw [if_neg (by simp; omega)]
  unfold files_New_j1
  rw [if_neg (by simp; omega)]
  rfl
theorem SI_new {r : Int} (h : 1 ≤ r) (h' : r ≤ 16777216) : SI 0 (onS [] r 0) :=
  ⟨List.Pairwise.nil, fun x hx => (by cases hx), Nat.zero_le _, ⟨h, h'⟩, by show ((0 : Nat) : Int) ≤ r; omega, fun x hx => (by cases hx), fun x hx => (by cases hx), ⟨Int.le_refl 0, by show (0 : Int) ≤ 9223372036854775807; decide⟩, ⟨Int.le_refl 0, Int.le_refl 0⟩⟩
theorem fa_ : formN [97] = true := by decide
theorem fb_ : formN [98] = true := by decide

theorem awake_eq : law05_awake = some true := by
  unfold law05_awake
  rw [New_eq (by decide) (by decide)]
  have h0 := SI_new (r := 100) (by decide) (by decide)
  simp only [Option.bind_some]
  rw [if_neg (by decide), if_neg (by simp)]
  have a1 : appS (onS [] 100 0) [97] [120, 121] = (0, onS [⟨[97], [120, 121], 0⟩] 100 1) := app_on fa_ (by decide) (by decide)
  have h1 := h0.app (n := [97]) (p := [120, 121]) (by decide)
  rw [h0.Append (by decide) (by decide), a1]
  rw [a1] at h1
  simp only [Option.bind_some]
  rw [if_neg (by decide)]
  have a2 : synS (onS [⟨[97], [120, 121], 0⟩] 100 1) [97] = (0, onS [⟨[97], [120, 121], 2⟩] 100 2) := syn_on fa_ (x := ⟨[97], [120, 121], 0⟩) rfl
  have h2 := h1.syn (n := [97])
  rw [h1.Sync (by decide) (by decide), a2]
  rw [a2] at h2
  simp only [Option.bind_some]
  rw [if_neg (by decide)]
  have a3 : appS (onS [⟨[97], [120, 121], 2⟩] 100 2) [97] [122, 119] = (0, onS [⟨[97], [120, 121, 122, 119], 2⟩] 100 3) := app_on fa_ (by decide) (by decide)
  have h3 := h2.app (n := [97]) (p := [122, 119]) (by decide)
  rw [h2.Append (by decide) (by decide), a3]
  rw [a3] at h3
  simp only [Option.bind_some]
  rw [if_neg (by decide), h3.Restart]
  have h4 := h3.rst [1]
  have a4 : rstS (onS [⟨[97], [120, 121, 122, 119], 2⟩] 100 3) [1] = onS [⟨[97], [120, 121, 122], 3⟩] 100 3 := rfl
  rw [a4] at h4 ⊢
  simp only [Option.bind_some]
  unfold law05_awake_j1
  rw [if_neg (by decide), h4.Read (by decide)]
  rfl
theorem byt_of {l : List Int} (h : gL 1 (gI .u8) l) : ∀ b ∈ l, 0 ≤ b ∧ b < 256 := fun x hx => by
  have := h.2 x hx
  unfold gI Lit.wf at this
  simp only [Bool.and_eq_true, decide_eq_true_eq] at this
  exact ⟨this.1, Int.lt_of_le_of_lt this.2 (by decide)⟩
end Go.Proofs.Ytgjhiojkkjaloaa.P
