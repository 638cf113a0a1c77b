/- Plain functions: what the Go functions of this part come to. -/
import Derived.Test.YtgjhiojkkjaloaaDb
namespace Go.Proofs.Ytgjhiojkkjaloaa.M
open Go Go.RowKit Go.Proofs.Ytgjhiojkkjaloaa.E
set_option linter.unusedVariables false
set_option linter.unusedSimpArgs false

/-! (*headrace/files.Store).Sync$1 -/
noncomputable def files_Store_Sync_1 (a0 : Int) (a1 : S68) : Option (S68) :=
  (at_ a1.f0 a0).bind fun x104 => (some (⟨a1.f0.set a0.toNat (⟨x104.f0, x104.f1, (x104.f1.length : Int)⟩ : S73), a1.f1, a1.f2, a1.f3, a1.f4⟩ : S68))

/-! (*headrace/files.Store).Delete$1 -/
noncomputable def files_Store_Delete_1 (a0 : Int) (a1 : S68) : Option (S68) :=
  ltt (IntKind.i64.wrap (a0 + 1)) fun x104 => ((del_ a1.f0 a0 x104).bind fun y106 => (some (⟨y106, a1.f1, a1.f2, a1.f3, a1.f4⟩ : S68)))

/-! (*headrace/files.Store).Rename$1 -/
noncomputable def files_Store_Rename_1 (a0 : Int) (a1 : S68) (a2 : (List UInt8)) : Option (S68 × (List UInt8)) :=
  (at_ a1.f0 a0).bind fun x105 => (ltt (IntKind.i64.wrap (a0 + 1)) fun x116 => (chk (x116 = a0 + 1) ((files_Store_find (⟨a1.f0.eraseIdx a0.toNat, a1.f1, a1.f2, a1.f3, a1.f4⟩ : S68) a2).bind fun y124 => (if y124.2 = true then ((at_ (a1.f0.eraseIdx a0.toNat) y124.1).bind fun x128 => (some ((⟨(a1.f0.eraseIdx a0.toNat).set y124.1.toNat (⟨a2, x105.f1, x105.f2⟩ : S73), a1.f1, a1.f2, a1.f3, a1.f4⟩ : S68), a2))) else ((ins_ (a1.f0.eraseIdx a0.toNat) y124.1 [(⟨a2, x105.f1, x105.f2⟩ : S73)]).bind fun y138 => (some ((⟨y138, a1.f1, a1.f2, a1.f3, a1.f4⟩ : S68), a2)))))))

/-! (*headrace/files.Store).Restart -/
noncomputable def files_Store_Restart_b1 (x101 : S68) (l1413 : (List S73)) : Option (Int × (Option S68)) :=
  some (0, some (⟨l1413, x101.f1, 0, false, x101.f4⟩ : S68))
noncomputable def files_Store_Restart_x1_0 (x101 : S68) (l1704 : (List S73)) : Option (Int × (Option S68)) :=
  files_Store_Restart_b1 x101 l1704
noncomputable def files_Store_Restart_j2 (x1560 : Int) (l1776 : (List S73)) : Option (((List S73) × Int) ⊕ (((List S73)))) :=
  (at_ l1776 x1560).bind fun x1777 => (ltt (IntKind.i64.wrap (x1560 + 1)) fun x1786 => (some (.inl (l1776.set x1560.toNat (⟨x1777.f0, x1777.f1, (x1777.f1.length : Int)⟩ : S73), x1786))))
noncomputable def files_Store_Restart_j3 (l1559 : (List S73)) (x1560 : Int) (x1722 : Int) (b1803 : Bool) : Option (((List S73) × Int) ⊕ (((List S73)))) :=
  if b1803 = true then ((at_ l1559 x1560).bind fun x1805 => (ltt (IntKind.i64.wrap (x1805.f2 + x1722)) fun x1816 => ((cut_ x1805.f1 0 x1816).bind fun l1818 => ((slices_Clone_byte_byte l1818).bind fun y1820 => (files_Store_Restart_j2 x1560 (l1559.set x1560.toNat (⟨x1805.f0, y1820, x1805.f2⟩ : S73))))))) else (files_Store_Restart_j2 x1560 l1559)
noncomputable def files_Store_Restart_j1 (l1559 : (List S73)) (x1560 : Int) (x1722 : Int) : Option (((List S73) × Int) ⊕ (((List S73)))) :=
  if (decide (0 ≤ x1722)) = true then ((at_ l1559 x1560).bind fun x1826 => (ltt (IntKind.i64.wrap ((x1826.f1.length : Int) - x1826.f2)) fun x1837 => (files_Store_Restart_j3 l1559 x1560 x1722 (decide (x1722 < x1837))))) else (files_Store_Restart_j3 l1559 x1560 x1722 false)
noncomputable def files_Store_Restart_l1 (a1 : (List Int)) (x101 : S68) (l1559 : (List S73)) (x1560 : Int) : Option (((List S73) × Int) ⊕ (((List S73)))) :=
  if (decide (x1560 < (x101.f0.length : Int))) = true then ((at_ l1559 x1560).bind fun x1713 => (if (decide (x1560 < (a1.length : Int))) = true then ((at_ a1 x1560).bind fun x1841 => (files_Store_Restart_j1 l1559 x1560 x1841)) else (files_Store_Restart_j1 l1559 x1560 0))) else (some (.inr (l1559)))
noncomputable def files_Store_Restart (a0 : (Option S68)) (a1 : (List Int)) : Option (Int × (Option S68)) :=
  match a0 with | none => (some (5, none)) | some x101 => ((loop (fun s => files_Store_Restart_l1 a1 x101 s.1 s.2) (x101.f0, 0)).bind fun t => files_Store_Restart_x1_0 x101 t)

/-! (*headrace/files.Store).Spoil -/
noncomputable def files_Store_Spoil_j1 (a2 : Int) (x101 : S68) (y114 : (Int × Bool)) (b134 : Bool) : Option (Int × (Option S68)) :=
  if b134 = true then (some (1, some x101)) else ((at_ x101.f0 y114.1).bind fun x138 => ((slices_Clone_byte_byte x138.f1).bind fun y148 => ((at_ (x101.f0.set y114.1.toNat (⟨x138.f0, y148, x138.f2⟩ : S73)) y114.1).bind fun x154 => (ltt (IntKind.i64.wrap (a2.tdiv 8)) fun x164 => ((at_ x154.f1 x164).bind fun x166 => (chk (0 ≤ (a2.tmod 8)) (ltt (ishl .u8 1 (a2.tmod 8)) fun x170 => (ltt (ixor .u8 x166 x170) fun x172 => (some (0, some (⟨(x101.f0.set y114.1.toNat (⟨x138.f0, y148, x138.f2⟩ : S73)).set y114.1.toNat (⟨x154.f0, x154.f1.set x164.toNat x172, x154.f2⟩ : S73), x101.f1, x101.f2, x101.f3, x101.f4⟩ : S68)))))))))))
noncomputable def files_Store_Spoil (a0 : (Option S68)) (a1 : (List UInt8)) (a2 : Int) : Option (Int × (Option S68)) :=
  match a0 with | none => (some (5, none)) | some x101 => ((files_Store_find x101 a1).bind fun y114 => (if (!y114.2) = true then (some (5, some x101)) else (if (decide (a2 < 0)) = true then (files_Store_Spoil_j1 a2 x101 y114 true) else ((at_ x101.f0 y114.1).bind fun x176 => (ltt (IntKind.i64.wrap (8 * (x176.f1.length : Int))) fun x185 => (files_Store_Spoil_j1 a2 x101 y114 (decide (x185 ≤ a2))))))))
end Go.Proofs.Ytgjhiojkkjaloaa.M
