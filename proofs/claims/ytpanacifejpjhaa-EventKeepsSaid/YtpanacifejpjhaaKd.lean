/- How the structs lie in memory. -/
import Derived.Test.YtpanacifejpjhaaDs
namespace Go.Proofs.Ytpanacifejpjhaa.M
open Go Go.RowKit Go.Proofs.Ytpanacifejpjhaa.E
set_option linter.unusedVariables false
set_option linter.unusedSimpArgs false

def k30 : Kd S30 where
  sz := 5
  V x cs := cs = [.int .u64 x.f0, .int .i64 x.f1, .int .i64 x.f2, str x.f3, .float .f64 x.f4]
  len h := by rw [h]; rfl
  one h := by rw [h]; simp [Value.oneCell', str]
def obj48 (Z : Nat → Prop) (wz : World) (g : Nat) (x : S48) : HP := ex fun i : Option Addr × Nat × Nat × Option Addr × Nat × Nat => star [blk g 48 [.slice i.1 i.2.1 i.2.2.1, .slice i.2.2.2.1 i.2.2.2.2.1 i.2.2.2.2.2], own (kM Z wz k30) 25 i.1 i.2.1 i.2.2.1 x.f0, own (kI .i64) 3 i.2.2.2.1 i.2.2.2.2.1 i.2.2.2.2.2 x.f1]
theorem obj48_open {r w : World} {L : List HP} {Z : Nat → Prop} {wz : World} {g : Nat} {x : S48} (h : SH r (obj48 Z wz g x :: L) w) : ∃ A0 n0 c0 A1 n1 c1, SH r (blk g 48 [.slice A0 n0 c0, .slice A1 n1 c1] :: own (kM Z wz k30) 25 A0 n0 c0 x.f0 :: own (kI .i64) 3 A1 n1 c1 x.f1 :: L) w := by
  obtain ⟨i, h⟩ := h.unex
  exact ⟨i.1, i.2.1, i.2.2.1, i.2.2.2.1, i.2.2.2.2.1, i.2.2.2.2.2, h.unstar⟩
theorem obj48_mk {r w : World} {L : List HP} {Z : Nat → Prop} {wz : World} {g : Nat} {x : S48} {A0 : Option Addr} {n0 : Nat} {c0 : Nat} {A1 : Option Addr} {n1 : Nat} {c1 : Nat} (h : SH r (blk g 48 [.slice A0 n0 c0, .slice A1 n1 c1] :: own (kM Z wz k30) 25 A0 n0 c0 x.f0 :: own (kI .i64) 3 A1 n1 c1 x.f1 :: L) w) : SH r (obj48 Z wz g x :: L) w := SH.ex (A0, n0, c0, A1, n1, c1) (SH.star (Ls := [blk g 48 [.slice A0 n0 c0, .slice A1 n1 c1], own (kM Z wz k30) 25 A0 n0 c0 x.f0, own (kI .i64) 3 A1 n1 c1 x.f1]) h)
end Go.Proofs.Ytpanacifejpjhaa.M
