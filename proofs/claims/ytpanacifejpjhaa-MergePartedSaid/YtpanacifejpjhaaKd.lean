/- How the structs lie in memory. -/
import Derived.Test.YtpanacifejpjhaaDs
namespace Go.Proofs.Ytpanacifejpjhaa.M
open Go Go.RowKit Go.Proofs.Ytpanacifejpjhaa.E
set_option linter.unusedVariables false
set_option linter.unusedSimpArgs false

def k30 : Kd S30 where
  sz := 5
  V x cs := cs = [.int .u64 x.f0, .int .i64 x.f1, .int .i64 x.f2, str x.f3, .float .f64 x.f4]
  len h := by rw [h]; rfl
  one h := by rw [h]; simp [Value.oneCell', str]
def obj48 (Z : Nat → Prop) (wz : World) (g : Nat) (x : S48) : HP := ex fun i : Option Addr × Nat × Nat × Option Addr × Nat × Nat => star [blk g 48 [.slice i.1 i.2.1 i.2.2.1, .slice i.2.2.2.1 i.2.2.2.2.1 i.2.2.2.2.2], own (kM Z wz k30) 25 i.1 i.2.1 i.2.2.1 x.f0, own (kI .i64) 3 i.2.2.2.1 i.2.2.2.2.1 i.2.2.2.2.2 x.f1]
theorem obj48_open {r w : World} {L : List HP} {Z : Nat → Prop} {wz : World} {g : Nat} {x : S48} (h : SH r (obj48 Z wz g x :: L) w) : ∃ A0_ n0_ c0_ A1_ n1_ c1_, SH r (blk g 48 [.slice A0_ n0_ c0_, .slice A1_ n1_ c1_] :: own (kM Z wz k30) 25 A0_ n0_ c0_ x.f0 :: own (kI .i64) 3 A1_ n1_ c1_ x.f1 :: L) w := by
  obtain ⟨i, h⟩ := h.unex
  exact ⟨i.1, i.2.1, i.2.2.1, i.2.2.2.1, i.2.2.2.2.1, i.2.2.2.2.2, h.unstar⟩
theorem obj48_mk {r w : World} {L : List HP} {Z : Nat → Prop} {wz : World} {g : Nat} {x : S48} {A0_ : Option Addr} {n0_ : Nat} {c0_ : Nat} {A1_ : Option Addr} {n1_ : Nat} {c1_ : Nat} (h : SH r (blk g 48 [.slice A0_ n0_ c0_, .slice A1_ n1_ c1_] :: own (kM Z wz k30) 25 A0_ n0_ c0_ x.f0 :: own (kI .i64) 3 A1_ n1_ c1_ x.f1 :: L) w) : SH r (obj48 Z wz g x :: L) w := SH.ex (A0_, n0_, c0_, A1_, n1_, c1_) (SH.star (Ls := [blk g 48 [.slice A0_ n0_ c0_, .slice A1_ n1_ c1_], own (kM Z wz k30) 25 A0_ n0_ c0_ x.f0, own (kI .i64) 3 A1_ n1_ c1_ x.f1]) h)
end Go.Proofs.Ytpanacifejpjhaa.M
