/- How the structs lie in memory. -/
import Derived.Test.YtgjhiojkkjaloaaDs
namespace Go.Proofs.Ytgjhiojkkjaloaa.M
open Go Go.RowKit Go.Proofs.Ytgjhiojkkjaloaa.E
set_option linter.unusedVariables false
set_option linter.unusedSimpArgs false

def k62 : Kd S62 where
  sz := 3
  V x cs := cs = [str x.f0, str x.f1, str x.f2]
  len h := by rw [h]; rfl
  one h := by rw [h]; simp [Value.oneCell', str]
def kz45 (Z : Nat → Prop) (wz : World) : Kd S45 where
  sz := 7
  V x cs := ∃ (A4 : Option Addr) (n4 : Nat) (c4 : Nat) (A6 : Option Addr) (n6 : Nat) (c6 : Nat), cs = [.int .u8 x.f0, .int .u8 x.f1, .int .u8 x.f2, str x.f3, .slice A4 n4 c4, .int .i64 x.f5, .slice A6 n6 c6] ∧ Imm Z wz (kI .u8) A4 n4 c4 x.f4 ∧ Imm Z wz (kI .i64) A6 n6 c6 x.f6
  len h := by obtain ⟨_, _, _, _, _, _, h, _⟩ := h; rw [h]; rfl
  one h := by obtain ⟨_, _, _, _, _, _, h, _⟩ := h; rw [h]; simp [Value.oneCell', str]
theorem kz45_sub {Z Z' : Nat → Prop} {wz wz' : World} (hs : Sub Z wz Z' wz') (x : S45) (cs : List Value) (h : (kz45 Z wz).V x cs) : (kz45 Z' wz').V x cs := by
  obtain ⟨A4, n4, c4, A6, n6, c6, h, h4, h6⟩ := h
  exact ⟨_, _, _, _, _, _, h, (Imm.sub h4 hs), (Imm.sub h6 hs)⟩
def kp73 : Kd (S73 × Hd) where
  sz := 3
  V p cs := cs = [str p.1.f0, .slice p.2.1 p.2.2.1 p.2.2.2, .int .i64 p.1.f2]
  len h := by rw [h]; rfl
  one h := by rw [h]; simp [Value.oneCell', str]
def obj68 (g : Nat) (x : S68) : HP := ex fun i : Option Addr × Nat × Nat => star [blk g 68 [.slice i.1 i.2.1 i.2.2, .int .i64 x.f1, .int .i64 x.f2, .bool x.f3, .int .i64 x.f4], own2 kp73 (kI .u8) 5 (fun x : S73 => x.f1) 73 i.1 i.2.1 i.2.2 x.f0]
theorem obj68_open {r w : World} {L : List HP} {g : Nat} {x : S68} (h : SH r (obj68 g x :: L) w) : ∃ A0_ n0_ c0_, SH r (blk g 68 [.slice A0_ n0_ c0_, .int .i64 x.f1, .int .i64 x.f2, .bool x.f3, .int .i64 x.f4] :: own2 kp73 (kI .u8) 5 (fun x : S73 => x.f1) 73 A0_ n0_ c0_ x.f0 :: L) w := by
  obtain ⟨i, h⟩ := h.unex
  exact ⟨i.1, i.2.1, i.2.2, h.unstar⟩
theorem obj68_mk {r w : World} {L : List HP} {g : Nat} {x : S68} {A0_ : Option Addr} {n0_ : Nat} {c0_ : Nat} (h : SH r (blk g 68 [.slice A0_ n0_ c0_, .int .i64 x.f1, .int .i64 x.f2, .bool x.f3, .int .i64 x.f4] :: own2 kp73 (kI .u8) 5 (fun x : S73 => x.f1) 73 A0_ n0_ c0_ x.f0 :: L) w) : SH r (obj68 g x :: L) w := SH.ex (A0_, n0_, c0_) (SH.star (Ls := [blk g 68 [.slice A0_ n0_ c0_, .int .i64 x.f1, .int .i64 x.f2, .bool x.f3, .int .i64 x.f4], own2 kp73 (kI .u8) 5 (fun x : S73 => x.f1) 73 A0_ n0_ c0_ x.f0]) h)
def obj9 (g : Nat) (x : (List UInt8)) : HP := ex fun i : Unit => star [blk g 9 [str x]]
theorem obj9_open {r w : World} {L : List HP} {g : Nat} {x : (List UInt8)} (h : SH r (obj9 g x :: L) w) : SH r (blk g 9 [str x] :: L) w := by
  obtain ⟨i, h⟩ := h.unex
  exact h.unstar
theorem obj9_mk {r w : World} {L : List HP} {g : Nat} {x : (List UInt8)} (h : SH r (blk g 9 [str x] :: L) w) : SH r (obj9 g x :: L) w := SH.ex (()) (SH.star (Ls := [blk g 9 [str x]]) h)
def obj53 (g : Nat) (x : S53) : HP := ex fun i : Option Addr × Nat × Nat => star [blk g 53 [.slice i.1 i.2.1 i.2.2, .int .i64 x.f1, .int .i64 x.f2, .bool x.f3, .int .i64 x.f4], own k62 62 i.1 i.2.1 i.2.2 x.f0]
theorem obj53_open {r w : World} {L : List HP} {g : Nat} {x : S53} (h : SH r (obj53 g x :: L) w) : ∃ A0_ n0_ c0_, SH r (blk g 53 [.slice A0_ n0_ c0_, .int .i64 x.f1, .int .i64 x.f2, .bool x.f3, .int .i64 x.f4] :: own k62 62 A0_ n0_ c0_ x.f0 :: L) w := by
  obtain ⟨i, h⟩ := h.unex
  exact ⟨i.1, i.2.1, i.2.2, h.unstar⟩
theorem obj53_mk {r w : World} {L : List HP} {g : Nat} {x : S53} {A0_ : Option Addr} {n0_ : Nat} {c0_ : Nat} (h : SH r (blk g 53 [.slice A0_ n0_ c0_, .int .i64 x.f1, .int .i64 x.f2, .bool x.f3, .int .i64 x.f4] :: own k62 62 A0_ n0_ c0_ x.f0 :: L) w) : SH r (obj53 g x :: L) w := SH.ex (A0_, n0_, c0_) (SH.star (Ls := [blk g 53 [.slice A0_ n0_ c0_, .int .i64 x.f1, .int .i64 x.f2, .bool x.f3, .int .i64 x.f4], own k62 62 A0_ n0_ c0_ x.f0]) h)
end Go.Proofs.Ytgjhiojkkjaloaa.M
