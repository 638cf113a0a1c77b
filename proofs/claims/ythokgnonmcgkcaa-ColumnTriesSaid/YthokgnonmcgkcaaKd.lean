/- How the structs lie in memory. -/
import Derived.Test.YthokgnonmcgkcaaDs
namespace Go.Proofs.Ythokgnonmcgkcaa.M
open Go Go.RowKit Go.Proofs.Ythokgnonmcgkcaa.E
set_option linter.unusedVariables false
set_option linter.unusedSimpArgs false

def obj26 (Z : Nat → Prop) (wz : World) (g : Nat) (x : S26) : HP := ex fun i : Option Addr × Nat × Nat => star [blk g 26 [.slice i.1 i.2.1 i.2.2, .int .i64 x.f1], pure' (Imm Z wz (kI .u8) i.1 i.2.1 i.2.2 x.f0)]
theorem obj26_open {r w : World} {L : List HP} {Z : Nat → Prop} {wz : World} {g : Nat} {x : S26} (h : SH r (obj26 Z wz g x :: L) w) : ∃ A0_ n0_ c0_, SH r (blk g 26 [.slice A0_ n0_ c0_, .int .i64 x.f1] :: pure' (Imm Z wz (kI .u8) A0_ n0_ c0_ x.f0) :: L) w := by
  obtain ⟨i, h⟩ := h.unex
  exact ⟨i.1, i.2.1, i.2.2, h.unstar⟩
theorem obj26_mk {r w : World} {L : List HP} {Z : Nat → Prop} {wz : World} {g : Nat} {x : S26} {A0_ : Option Addr} {n0_ : Nat} {c0_ : Nat} (h : SH r (blk g 26 [.slice A0_ n0_ c0_, .int .i64 x.f1] :: pure' (Imm Z wz (kI .u8) A0_ n0_ c0_ x.f0) :: L) w) : SH r (obj26 Z wz g x :: L) w := SH.ex (A0_, n0_, c0_) (SH.star (Ls := [blk g 26 [.slice A0_ n0_ c0_, .int .i64 x.f1], pure' (Imm Z wz (kI .u8) A0_ n0_ c0_ x.f0)]) h)
def obj72 (Z : Nat → Prop) (wz : World) (g : Nat) (x : S72) : HP := ex fun i : Option Addr × Nat × Nat => star [blk g 72 [.slice i.1 i.2.1 i.2.2], pure' (Imm Z wz (kI .u8) i.1 i.2.1 i.2.2 x.f0)]
theorem obj72_open {r w : World} {L : List HP} {Z : Nat → Prop} {wz : World} {g : Nat} {x : S72} (h : SH r (obj72 Z wz g x :: L) w) : ∃ A0_ n0_ c0_, SH r (blk g 72 [.slice A0_ n0_ c0_] :: pure' (Imm Z wz (kI .u8) A0_ n0_ c0_ x.f0) :: L) w := by
  obtain ⟨i, h⟩ := h.unex
  exact ⟨i.1, i.2.1, i.2.2, h.unstar⟩
theorem obj72_mk {r w : World} {L : List HP} {Z : Nat → Prop} {wz : World} {g : Nat} {x : S72} {A0_ : Option Addr} {n0_ : Nat} {c0_ : Nat} (h : SH r (blk g 72 [.slice A0_ n0_ c0_] :: pure' (Imm Z wz (kI .u8) A0_ n0_ c0_ x.f0) :: L) w) : SH r (obj72 Z wz g x :: L) w := SH.ex (A0_, n0_, c0_) (SH.star (Ls := [blk g 72 [.slice A0_ n0_ c0_], pure' (Imm Z wz (kI .u8) A0_ n0_ c0_ x.f0)]) h)
def obj37 (g : Nat) (x : (List Int)) : HP := ex fun i : Option Addr × Nat × Nat => star [blk g 37 [.slice i.1 i.2.1 i.2.2], own (kI .i64) 2 i.1 i.2.1 i.2.2 x]
theorem obj37_open {r w : World} {L : List HP} {g : Nat} {x : (List Int)} (h : SH r (obj37 g x :: L) w) : ∃ A0_ n0_ c0_, SH r (blk g 37 [.slice A0_ n0_ c0_] :: own (kI .i64) 2 A0_ n0_ c0_ x :: L) w := by
  obtain ⟨i, h⟩ := h.unex
  exact ⟨i.1, i.2.1, i.2.2, h.unstar⟩
theorem obj37_mk {r w : World} {L : List HP} {g : Nat} {x : (List Int)} {A0_ : Option Addr} {n0_ : Nat} {c0_ : Nat} (h : SH r (blk g 37 [.slice A0_ n0_ c0_] :: own (kI .i64) 2 A0_ n0_ c0_ x :: L) w) : SH r (obj37 g x :: L) w := SH.ex (A0_, n0_, c0_) (SH.star (Ls := [blk g 37 [.slice A0_ n0_ c0_], own (kI .i64) 2 A0_ n0_ c0_ x]) h)
def obj57 (g : Nat) (x : (List (List UInt8))) : HP := ex fun i : Option Addr × Nat × Nat => star [blk g 57 [.slice i.1 i.2.1 i.2.2], own kS 9 i.1 i.2.1 i.2.2 x]
theorem obj57_open {r w : World} {L : List HP} {g : Nat} {x : (List (List UInt8))} (h : SH r (obj57 g x :: L) w) : ∃ A0_ n0_ c0_, SH r (blk g 57 [.slice A0_ n0_ c0_] :: own kS 9 A0_ n0_ c0_ x :: L) w := by
  obtain ⟨i, h⟩ := h.unex
  exact ⟨i.1, i.2.1, i.2.2, h.unstar⟩
theorem obj57_mk {r w : World} {L : List HP} {g : Nat} {x : (List (List UInt8))} {A0_ : Option Addr} {n0_ : Nat} {c0_ : Nat} (h : SH r (blk g 57 [.slice A0_ n0_ c0_] :: own kS 9 A0_ n0_ c0_ x :: L) w) : SH r (obj57 g x :: L) w := SH.ex (A0_, n0_, c0_) (SH.star (Ls := [blk g 57 [.slice A0_ n0_ c0_], own kS 9 A0_ n0_ c0_ x]) h)
def obj22 (Z : Nat → Prop) (wz : World) (g : Nat) (x : (List Int)) : HP := ex fun i : Option Addr × Nat × Nat => star [blk g 22 [.slice i.1 i.2.1 i.2.2], pure' (Imm Z wz (kI .u8) i.1 i.2.1 i.2.2 x)]
theorem obj22_open {r w : World} {L : List HP} {Z : Nat → Prop} {wz : World} {g : Nat} {x : (List Int)} (h : SH r (obj22 Z wz g x :: L) w) : ∃ A0_ n0_ c0_, SH r (blk g 22 [.slice A0_ n0_ c0_] :: pure' (Imm Z wz (kI .u8) A0_ n0_ c0_ x) :: L) w := by
  obtain ⟨i, h⟩ := h.unex
  exact ⟨i.1, i.2.1, i.2.2, h.unstar⟩
theorem obj22_mk {r w : World} {L : List HP} {Z : Nat → Prop} {wz : World} {g : Nat} {x : (List Int)} {A0_ : Option Addr} {n0_ : Nat} {c0_ : Nat} (h : SH r (blk g 22 [.slice A0_ n0_ c0_] :: pure' (Imm Z wz (kI .u8) A0_ n0_ c0_ x) :: L) w) : SH r (obj22 Z wz g x :: L) w := SH.ex (A0_, n0_, c0_) (SH.star (Ls := [blk g 22 [.slice A0_ n0_ c0_], pure' (Imm Z wz (kI .u8) A0_ n0_ c0_ x)]) h)
def obj24 (Z : Nat → Prop) (wz : World) (g : Nat) (x : S26) : HP := ex fun i : Nat => star [blk g 24 [.pointer (some ⟨i, 0, none⟩)], obj26 Z wz i x]
theorem obj24_open {r w : World} {L : List HP} {Z : Nat → Prop} {wz : World} {g : Nat} {x : S26} (h : SH r (obj24 Z wz g x :: L) w) : ∃ g0_, SH r (blk g 24 [.pointer (some ⟨g0_, 0, none⟩)] :: obj26 Z wz g0_ x :: L) w := by
  obtain ⟨i, h⟩ := h.unex
  exact ⟨i, h.unstar⟩
theorem obj24_mk {r w : World} {L : List HP} {Z : Nat → Prop} {wz : World} {g : Nat} {x : S26} {g0_ : Nat} (h : SH r (blk g 24 [.pointer (some ⟨g0_, 0, none⟩)] :: obj26 Z wz g0_ x :: L) w) : SH r (obj24 Z wz g x :: L) w := SH.ex (g0_) (SH.star (Ls := [blk g 24 [.pointer (some ⟨g0_, 0, none⟩)], obj26 Z wz g0_ x]) h)
def obj4 (g : Nat) (x : Bool) : HP := ex fun i : Unit => star [blk g 4 [.bool x]]
theorem obj4_open {r w : World} {L : List HP} {g : Nat} {x : Bool} (h : SH r (obj4 g x :: L) w) : SH r (blk g 4 [.bool x] :: L) w := by
  obtain ⟨i, h⟩ := h.unex
  exact h.unstar
theorem obj4_mk {r w : World} {L : List HP} {g : Nat} {x : Bool} (h : SH r (blk g 4 [.bool x] :: L) w) : SH r (obj4 g x :: L) w := SH.ex (()) (SH.star (Ls := [blk g 4 [.bool x]]) h)
def obj3 (g : Nat) (x : Int) : HP := ex fun i : Unit => star [blk g 3 [.int .i64 x]]
theorem obj3_open {r w : World} {L : List HP} {g : Nat} {x : Int} (h : SH r (obj3 g x :: L) w) : SH r (blk g 3 [.int .i64 x] :: L) w := by
  obtain ⟨i, h⟩ := h.unex
  exact h.unstar
theorem obj3_mk {r w : World} {L : List HP} {g : Nat} {x : Int} (h : SH r (blk g 3 [.int .i64 x] :: L) w) : SH r (obj3 g x :: L) w := SH.ex (()) (SH.star (Ls := [blk g 3 [.int .i64 x]]) h)
end Go.Proofs.Ythokgnonmcgkcaa.M
