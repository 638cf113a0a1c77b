/- How the structs lie in memory. -/
import Derived.Test.YthokgnonmcgkcaaDs
namespace Go.Proofs.Ythokgnonmcgkcaa.M
open Go Go.RowKit Go.Proofs.Ythokgnonmcgkcaa.E
set_option linter.unusedVariables false
set_option linter.unusedSimpArgs false

def obj26 (Z : Nat → Prop) (wz : World) (g : Nat) (x : S26) : HP := ex fun i : Option Addr × Nat × Nat => star [blk g 26 [.slice i.1 i.2.1 i.2.2, .int .i64 x.f1], pure' (Imm Z wz (kI .u8) i.1 i.2.1 i.2.2 x.f0)]
theorem obj26_open {r w : World} {L : List HP} {Z : Nat → Prop} {wz : World} {g : Nat} {x : S26} (h : SH r (obj26 Z wz g x :: L) w) : ∃ A0_ n0_ c0_, SH r (blk g 26 [.slice A0_ n0_ c0_, .int .i64 x.f1] :: pure' (Imm Z wz (kI .u8) A0_ n0_ c0_ x.f0) :: L) w := by
  obtain ⟨i, h⟩ := h.unex
  exact ⟨i.1, i.2.1, i.2.2, h.unstar⟩
theorem obj26_mk {r w : World} {L : List HP} {Z : Nat → Prop} {wz : World} {g : Nat} {x : S26} {A0_ : Option Addr} {n0_ : Nat} {c0_ : Nat} (h : SH r (blk g 26 [.slice A0_ n0_ c0_, .int .i64 x.f1] :: pure' (Imm Z wz (kI .u8) A0_ n0_ c0_ x.f0) :: L) w) : SH r (obj26 Z wz g x :: L) w := SH.ex (A0_, n0_, c0_) (SH.star (Ls := [blk g 26 [.slice A0_ n0_ c0_, .int .i64 x.f1], pure' (Imm Z wz (kI .u8) A0_ n0_ c0_ x.f0)]) h)
def obj72 (Z : Nat → Prop) (wz : World) (g : Nat) (x : S72) : HP := ex fun i : Option Addr × Nat × Nat => star [blk g 72 [.slice i.1 i.2.1 i.2.2], pure' (Imm Z wz (kI .u8) i.1 i.2.1 i.2.2 x.f0)]
theorem obj72_open {r w : World} {L : List HP} {Z : Nat → Prop} {wz : World} {g : Nat} {x : S72} (h : SH r (obj72 Z wz g x :: L) w) : ∃ A0_ n0_ c0_, SH r (blk g 72 [.slice A0_ n0_ c0_] :: pure' (Imm Z wz (kI .u8) A0_ n0_ c0_ x.f0) :: L) w := by
  obtain ⟨i, h⟩ := h.unex
  exact ⟨i.1, i.2.1, i.2.2, h.unstar⟩
theorem obj72_mk {r w : World} {L : List HP} {Z : Nat → Prop} {wz : World} {g : Nat} {x : S72} {A0_ : Option Addr} {n0_ : Nat} {c0_ : Nat} (h : SH r (blk g 72 [.slice A0_ n0_ c0_] :: pure' (Imm Z wz (kI .u8) A0_ n0_ c0_ x.f0) :: L) w) : SH r (obj72 Z wz g x :: L) w := SH.ex (A0_, n0_, c0_) (SH.star (Ls := [blk g 72 [.slice A0_ n0_ c0_], pure' (Imm Z wz (kI .u8) A0_ n0_ c0_ x.f0)]) h)
def obj37 (g : Nat) (x : (List Int)) : HP := ex fun i : Option Addr × Nat × Nat => star [blk g 37 [.slice i.1 i.2.1 i.2.2], own (kI .i64) 2 i.1 i.2.1 i.2.2 x]
theorem obj37_open {r w : World} {L : List HP} {g : Nat} {x : (List Int)} (h : SH r (obj37 g x :: L) w) : ∃ A0_ n0_ c0_, SH r (blk g 37 [.slice A0_ n0_ c0_] :: own (kI .i64) 2 A0_ n0_ c0_ x :: L) w := by
  obtain ⟨i, h⟩ := h.unex
  exact ⟨i.1, i.2.1, i.2.2, h.unstar⟩
theorem obj37_mk {r w : World} {L : List HP} {g : Nat} {x : (List Int)} {A0_ : Option Addr} {n0_ : Nat} {c0_ : Nat} (h : SH r (blk g 37 [.slice A0_ n0_ c0_] :: own (kI .i64) 2 A0_ n0_ c0_ x :: L) w) : SH r (obj37 g x :: L) w := SH.ex (A0_, n0_, c0_) (SH.star (Ls := [blk g 37 [.slice A0_ n0_ c0_], own (kI .i64) 2 A0_ n0_ c0_ x]) h)
end Go.Proofs.Ythokgnonmcgkcaa.M
