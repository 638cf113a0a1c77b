/- Plain functions: what the Go functions of this part come to. -/
import Derived.Test.YtpanacifejpjhaaDa
namespace Go.Proofs.Ytpanacifejpjhaa.M
open Go Go.RowKit Go.Proofs.Ytpanacifejpjhaa.E
set_option linter.unusedVariables false
set_option linter.unusedSimpArgs false

/-! headrace/headraceref01.Bits -/
noncomputable def r01_Bits_j1 (a0 : Nat) (b106 : Bool) : Option (Int) :=
  if b106 = true then (some 9221120237041090560) else (some (a0 : Int))
noncomputable def r01_Bits (a0 : Nat) : Option (Int) :=
  if (((ishr .u64 (a0 : Int) 52).tmod 2048) == 2047) = true then (r01_Bits_j1 a0 (((a0 : Int).tmod 4503599627370496) != 0)) else (r01_Bits_j1 a0 false)

/-! headrace/headraceref01.Same -/
noncomputable def r01_Same (a0 : Nat) (a1 : Nat) : Option (Bool) :=
  (r01_Bits a0).bind fun y103 => ((r01_Bits a1).bind fun y105 => (some (y103 == y105)))

/-! headrace/headraceref06.Same -/
noncomputable def r06_Same (a0 : S30) (a1 : S30) : Option (Bool) :=
  if (a0.f0 == a1.f0) = true then (if (a0.f1 == a1.f1) = true then (if (a0.f2 == a1.f2) = true then (if (a0.f3 == a1.f3) = true then ((r01_Same a0.f4 a1.f4).bind fun y109 => (some y109)) else (some false)) else (some false)) else (some false)) else (some false)

/-! headrace/headraceref06.SameAll -/
noncomputable def r06_SameAll_b1 : Option (Bool) :=
  some true
noncomputable def r06_SameAll_x1_0 : Option (Bool) :=
  r06_SameAll_b1
noncomputable def r06_SameAll_l1 (a0 : (List S30)) (a1 : (List S30)) (x286 : Int) : Option ((Int) ⊕ ((Unit) ⊕ (Bool))) :=
  if (decide (x286 < (a0.length : Int))) = true then ((at_ a0 x286).bind fun x311 => ((at_ a1 x286).bind fun x314 => ((r06_Same x311 x314).bind fun y317 => (if (!y317) = true then (some (.inr (.inr false))) else (some (.inl (IntKind.i64.wrap (x286 + 1)))))))) else (some (.inr (.inl ())))
noncomputable def r06_SameAll (a0 : (List S30)) (a1 : (List S30)) : Option (Bool) :=
  if ((a0.length : Int) != (a1.length : Int)) = true then (some false) else ((loop (fun s => r06_SameAll_l1 a0 a1 s) (0)).bind fun t => match t with | (.inl t) => r06_SameAll_x1_0 | (.inr t) => some t)

/-! math.IsNaN -/
noncomputable def math_IsNaN (a0 : Nat) : Option (Bool) :=
  some (!feq a0 a0)

/-! headrace/real.Canon -/
noncomputable def real_Canon (a0 : Nat) : Option (Nat) :=
  (math_IsNaN a0).bind fun y104 => (if y104 = true then (some ((9221120237041090560 : Int).toNat)) else (some a0))

/-! headrace/real.Bits -/
noncomputable def real_Bits (a0 : Nat) : Option (Int) :=
  (real_Canon a0).bind fun y103 => (some (y103 : Int))

/-! headrace/real.Same -/
noncomputable def real_Same (a0 : Nat) (a1 : Nat) : Option (Bool) :=
  (real_Bits a0).bind fun y103 => ((real_Bits a1).bind fun y105 => (some (y103 == y105)))

/-! headrace/event.Same -/
noncomputable def event_Same (a0 : S30) (a1 : S30) : Option (Bool) :=
  if (a0.f0 == a1.f0) = true then (if (a0.f1 == a1.f1) = true then (if (a0.f2 == a1.f2) = true then (if (a0.f3 == a1.f3) = true then ((real_Same a0.f4 a1.f4).bind fun y109 => (some y109)) else (some false)) else (some false)) else (some false)) else (some false)

/-! headrace/event.Form -/
noncomputable def event_Form (a0 : S30) (a1 : Int) : Option (Bool) :=
  if (decide (0 ≤ a0.f1)) = true then (if (decide (a0.f1 < a1)) = true then (if (decide (-1099511627776 ≤ a0.f2)) = true then (if (decide (a0.f2 ≤ 1099511627776)) = true then (if (decide ((a0.f3.length : Int) ≤ 32)) = true then (some (decide (a0.f0 < 1099511627776))) else (some false)) else (some false)) else (some false)) else (some false)) else (some false)

/-! headrace/headraceref06.Form -/
noncomputable def r06_Form (a0 : S30) (a1 : Int) : Option (Bool) :=
  if (decide (0 ≤ a0.f1)) = true then (if (decide (a0.f1 < a1)) = true then (if (decide (-1099511627776 ≤ a0.f2)) = true then (if (decide (a0.f2 ≤ 1099511627776)) = true then (if (decide ((a0.f3.length : Int) ≤ 32)) = true then (some (decide (a0.f0 < 1099511627776))) else (some false)) else (some false)) else (some false)) else (some false)) else (some false)
end Go.Proofs.Ytpanacifejpjhaa.M
