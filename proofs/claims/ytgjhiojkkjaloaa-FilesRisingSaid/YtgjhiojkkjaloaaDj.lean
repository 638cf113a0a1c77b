/- Plain functions: what the Go functions of this part come to. -/
import Derived.Test.YtgjhiojkkjaloaaDh
namespace Go.Proofs.Ytgjhiojkkjaloaa.M
open Go Go.RowKit Go.Proofs.Ytgjhiojkkjaloaa.E
set_option linter.unusedVariables false
set_option linter.unusedSimpArgs false

/-! headrace/headracelaw05.FilesRising -/
noncomputable def law05_FilesRising_b1 : Option (Bool) :=
  some true
noncomputable def law05_FilesRising_x1_0 : Option (Bool) :=
  law05_FilesRising_b1
noncomputable def law05_FilesRising_b3 (x16823 : Int) (o19836 : (Option S68)) : Option (((Option S68) × Int) ⊕ ((Unit) ⊕ (Bool))) :=
  ltt (IntKind.i64.wrap (x16823 + 1)) fun x19993 => (some (.inl (o19836, x19993)))
noncomputable def law05_FilesRising_x2_3 (x16823 : Int) (o19836 : (Option S68)) : Option (((Option S68) × Int) ⊕ ((Unit) ⊕ (Bool))) :=
  law05_FilesRising_b3 x16823 o19836
noncomputable def law05_FilesRising_j2 (x20044 : Int) (b20119 : Bool) : Option ((Int) ⊕ ((Unit) ⊕ (Bool))) :=
  if b20119 = true then (some (.inr (.inr false))) else (ltt (IntKind.i64.wrap (x20044 + 1)) fun x20122 => (some (.inl (x20122))))
noncomputable def law05_FilesRising_l2 (y19838 : ((List (List UInt8)))) (x20044 : Int) : Option ((Int) ⊕ ((Unit) ⊕ (Bool))) :=
  if (decide (x20044 < (y19838.length : Int))) = true then (if (decide (0 < x20044)) = true then (ltt (IntKind.i64.wrap (x20044 - 1)) fun x20125 => ((at_ y19838 x20125).bind fun x20127 => ((at_ y19838 x20044).bind fun x20130 => (if (!Op.bytesLess x20127 x20130) = true then (law05_FilesRising_j2 x20044 true) else ((files_Form x20130).bind fun y20135 => (law05_FilesRising_j2 x20044 (!y20135))))))) else ((at_ y19838 x20044).bind fun x20137 => ((files_Form x20137).bind fun y20140 => (law05_FilesRising_j2 x20044 (!y20140))))) else (some (.inr (.inl ())))
noncomputable def law05_FilesRising_b2 (x16823 : Int) (o19836 : (Option S68)) : Option (((Option S68) × Int) ⊕ ((Unit) ⊕ (Bool))) :=
  (files_Store_List o19836).bind fun y19838 => ((loop (fun s => law05_FilesRising_l2 y19838 s) (0)).bind fun t => match t with | (.inl t) => law05_FilesRising_x2_3 x16823 o19836 | (.inr t) => some (.inr (.inr t)))
noncomputable def law05_FilesRising_j3 (o16822 : (Option S68)) (x16823 : Int) (y19757 : ((List UInt8) × (List UInt8))) (x19817 : Int) (b20145 : Bool) : Option (((Option S68) × Int) ⊕ ((Unit) ⊕ (Bool))) :=
  if b20145 = true then ((files_Store_Append o16822 y19757.1 []).bind fun y20147 => (law05_FilesRising_b2 x16823 y20147.2)) else (if (x19817 == 2) = true then ((files_Store_Rename o16822 y19757.1 y19757.2).bind fun y20151 => (law05_FilesRising_b2 x16823 y20151.2)) else ((files_Store_Delete o16822 y19757.1).bind fun y20153 => (law05_FilesRising_b2 x16823 y20153.2)))
noncomputable def law05_FilesRising_j1 (a0 : (List S45)) (o16822 : (Option S68)) (x16823 : Int) (b18498 : Bool) : Option (((Option S68) × Int) ⊕ ((Unit) ⊕ (Bool))) :=
  if b18498 = true then ((at_ a0 x16823).bind fun x19746 => ((law05_Act_names x19746).bind fun y19757 => (ltt (x19746.f0.tmod 4) fun x19817 => (if (x19817 == 0) = true then (law05_FilesRising_j3 o16822 x16823 y19757 x19817 (x19817 == 0)) else (law05_FilesRising_j3 o16822 x16823 y19757 x19817 (x19817 == 1)))))) else (some (.inr (.inl ())))
noncomputable def law05_FilesRising_l1 (a0 : (List S45)) (o16822 : (Option S68)) (x16823 : Int) : Option (((Option S68) × Int) ⊕ ((Unit) ⊕ (Bool))) :=
  if (decide (x16823 < (a0.length : Int))) = true then (law05_FilesRising_j1 a0 o16822 x16823 (decide (x16823 < 60))) else (law05_FilesRising_j1 a0 o16822 x16823 false)
noncomputable def law05_FilesRising (a0 : (List S45)) : Option (Bool) :=
  (law05_awake).bind fun y104 => (if (!y104) = true then (some false) else ((files_New 65536).bind fun y109 => ((loop (fun s => law05_FilesRising_l1 a0 s.1 s.2) (y109.1, 0)).bind fun t => match t with | (.inl t) => law05_FilesRising_x1_0 | (.inr t) => some t)))
end Go.Proofs.Ytgjhiojkkjaloaa.M
