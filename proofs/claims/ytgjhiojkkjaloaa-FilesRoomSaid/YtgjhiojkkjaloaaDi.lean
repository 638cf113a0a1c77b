/- Plain functions: what the Go functions of this part come to. -/
import Derived.Test.YtgjhiojkkjaloaaDf
namespace Go.Proofs.Ytgjhiojkkjaloaa.M
open Go Go.RowKit Go.Proofs.Ytgjhiojkkjaloaa.E
set_option linter.unusedVariables false
set_option linter.unusedSimpArgs false

/-! headrace/headracelaw05.FilesRoom -/
noncomputable def law05_FilesRoom_b1 : Option (Bool) :=
  some true
noncomputable def law05_FilesRoom_x1_0 : Option (Bool) :=
  law05_FilesRoom_b1
noncomputable def law05_FilesRoom_j4 (x1459 : Int) (o1675 : (Option S68)) (x1676 : Int) (l1677 : (List Int)) : Option (((Option S68) × Int × (List Int) × Int) ⊕ ((Unit) ⊕ (Bool))) :=
  (files_Store_Used o1675).bind fun y1679 => (if (y1679 != x1676) = true then (some (.inr (.inr false))) else (ltt (IntKind.i64.wrap (x1459 + 1)) fun x1683 => (some (.inl (o1675, x1676, l1677, x1683)))))
noncomputable def law05_FilesRoom_j5 (x1459 : Int) (x1611 : Int) (x1645 : Int) (l1646 : (List Int)) (o1694 : (Option S68)) (b1695 : Bool) : Option (((Option S68) × Int × (List Int) × Int) ⊕ ((Unit) ⊕ (Bool))) :=
  if b1695 = true then ((at_ l1646 x1611).bind fun x1698 => (ltt (IntKind.i64.wrap (x1645 - x1698)) fun x1701 => (law05_FilesRoom_j4 x1459 o1694 x1701 (l1646.set x1611.toNat 0)))) else (law05_FilesRoom_j4 x1459 o1694 x1645 l1646)
noncomputable def law05_FilesRoom_j3 (x1459 : Int) (x1611 : Int) (y1623 : (Int × (Option S68))) (x1645 : Int) (l1646 : (List Int)) : Option (((Option S68) × Int × (List Int) × Int) ⊕ ((Unit) ⊕ (Bool))) :=
  ltt (x1459.tmod 5) fun x1703 => (if (x1703 == 4) = true then ((at_ [[97], [98], [99]] x1611).bind fun x1706 => ((files_Store_Delete y1623.2 x1706).bind fun y1709 => (law05_FilesRoom_j5 x1459 x1611 x1645 l1646 y1709.2 (y1709.1 == 0)))) else (law05_FilesRoom_j5 x1459 x1611 x1645 l1646 y1623.2 false))
noncomputable def law05_FilesRoom_j2 (x1457 : Int) (l1458 : (List Int)) (x1459 : Int) (x1611 : Int) (x1615 : Int) (y1623 : (Int × (Option S68))) (b1631 : Bool) : Option (((Option S68) × Int × (List Int) × Int) ⊕ ((Unit) ⊕ (Bool))) :=
  if b1631 = true then (some (.inr (.inr false))) else (if (y1623.1 == 0) = true then (ltt (IntKind.i64.wrap (x1457 + ((List.replicate x1615.toNat (0 : Int)).length : Int))) fun x1714 => ((at_ l1458 x1611).bind fun x1716 => (ltt (IntKind.i64.wrap (x1716 + ((List.replicate x1615.toNat (0 : Int)).length : Int))) fun x1719 => (law05_FilesRoom_j3 x1459 x1611 y1623 x1714 (l1458.set x1611.toNat x1719))))) else (law05_FilesRoom_j3 x1459 x1611 y1623 x1457 l1458))
noncomputable def law05_FilesRoom_j1 (a1 : (List Int)) (x111 : Int) (o1456 : (Option S68)) (x1457 : Int) (l1458 : (List Int)) (x1459 : Int) (b1601 : Bool) : Option (((Option S68) × Int × (List Int) × Int) ⊕ ((Unit) ⊕ (Bool))) :=
  if b1601 = true then ((at_ a1 x1459).bind fun x1606 => (ltt (IntKind.i64.wrap x1606) fun x1609 => (ltt (x1609.tmod 3) fun x1611 => (ltt (IntKind.i64.wrap (x1609.tdiv 4)) fun x1615 => (chk (0 ≤ x1615 ∧ (1 : Int) * x1615 ≤ 140737488355328) ((at_ [[97], [98], [99]] x1611).bind fun x1620 => ((files_Store_Append o1456 x1620 (List.replicate x1615.toNat (0 : Int))).bind fun y1623 => (ltt (IntKind.i64.wrap (x1457 + ((List.replicate x1615.toNat (0 : Int)).length : Int))) fun x1721 => (if (!((y1623.1 == 0) == (decide (x1721 ≤ x111)))) = true then (law05_FilesRoom_j2 x1457 l1458 x1459 x1611 x1615 y1623 true) else (if (y1623.1 != 0) = true then (law05_FilesRoom_j2 x1457 l1458 x1459 x1611 x1615 y1623 (y1623.1 != 10)) else (law05_FilesRoom_j2 x1457 l1458 x1459 x1611 x1615 y1623 false))))))))))) else (some (.inr (.inl ())))
noncomputable def law05_FilesRoom_l1 (a1 : (List Int)) (x111 : Int) (o1456 : (Option S68)) (x1457 : Int) (l1458 : (List Int)) (x1459 : Int) : Option (((Option S68) × Int × (List Int) × Int) ⊕ ((Unit) ⊕ (Bool))) :=
  if (decide (x1459 < (a1.length : Int))) = true then (law05_FilesRoom_j1 a1 x111 o1456 x1457 l1458 x1459 (decide (x1459 < 60))) else (law05_FilesRoom_j1 a1 x111 o1456 x1457 l1458 x1459 false)
noncomputable def law05_FilesRoom (a0 : Int) (a1 : (List Int)) : Option (Bool) :=
  (law05_awake).bind fun y104 => (if (!y104) = true then (some false) else (ltt (IntKind.i64.wrap a0) fun x109 => (ltt (IntKind.i64.wrap (1 + x109)) fun x111 => ((files_New x111).bind fun y114 => ((loop (fun s => law05_FilesRoom_l1 a1 x111 s.1 s.2.1 s.2.2.1 s.2.2.2) (y114.1, 0, ([0, 0, 0] : List Int), 0)).bind fun t => match t with | (.inl t) => law05_FilesRoom_x1_0 | (.inr t) => some t)))))
end Go.Proofs.Ytgjhiojkkjaloaa.M
