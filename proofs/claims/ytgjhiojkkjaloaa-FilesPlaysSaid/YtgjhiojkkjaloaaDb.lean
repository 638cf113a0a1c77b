/- Plain functions: what the Go functions of this part come to. -/
import Derived.Test.YtgjhiojkkjaloaaDa
import Derived.Test.YtgjhiojkkjaloaaHa
namespace Go.Proofs.Ytgjhiojkkjaloaa.M
open Go Go.RowKit Go.Proofs.Ytgjhiojkkjaloaa.E
set_option linter.unusedVariables false
set_option linter.unusedSimpArgs false

/-! headrace/files.Form -/
noncomputable def files_Form_b1 (a0 : (List UInt8)) : Option (Bool) :=
  if (!(a0 == [])) = true then (some (decide ((a0.length : Int) ≤ 32))) else (some false)
noncomputable def files_Form_x1_0 (a0 : (List UInt8)) : Option (Bool) :=
  files_Form_b1 a0
noncomputable def files_Form_j1 (x383 : Int) (b427 : Bool) : Option ((Int) ⊕ ((Unit) ⊕ (Bool))) :=
  if b427 = true then (some (.inr (.inr false))) else (ltt (IntKind.i64.wrap (x383 + 1)) fun x430 => (some (.inl (x430))))
noncomputable def files_Form_l1 (a0 : (List UInt8)) (x383 : Int) : Option ((Int) ⊕ ((Unit) ⊕ (Bool))) :=
  if (decide (x383 < (a0.length : Int))) = true then ((at_ a0 x383).bind fun x419 => (if ((x419.toNat : Int) != 46) = true then (if (decide ((x419.toNat : Int) < 48)) = true then (if (decide ((x419.toNat : Int) < 97)) = true then (files_Form_j1 x383 true) else (files_Form_j1 x383 (decide (122 < (x419.toNat : Int))))) else (if (decide (57 < (x419.toNat : Int))) = true then (if (decide ((x419.toNat : Int) < 97)) = true then (files_Form_j1 x383 true) else (files_Form_j1 x383 (decide (122 < (x419.toNat : Int))))) else (files_Form_j1 x383 false))) else (files_Form_j1 x383 false))) else (some (.inr (.inl ())))
noncomputable def files_Form (a0 : (List UInt8)) : Option (Bool) :=
  (loop (fun s => files_Form_l1 a0 s) (0)).bind fun t => match t with | (.inl t) => files_Form_x1_0 a0 | (.inr t) => some t

/-! (*headrace/files.Store).find$1 -/
noncomputable def files_Store_find_1 (a0 : S73) (a1 : (List UInt8)) : Option (Int) :=
  if (Op.bytesLess a0.f0 a1) = true then (some (-1)) else (if (!(Op.bytesLess a0.f0 a1 || a0.f0 == a1)) = true then (some 1) else (some 0))

/-! slices.BinarySearchFunc[[]headrace/files.file,headrace/files.file,string] -/
noncomputable def slices_BinarySearchFunc_files_file_files_file_string_b1 (a0 : (List S73)) (a1 : (List UInt8)) (x592 : Int) : Option (Int × Bool) :=
  if (decide (x592 < (a0.length : Int))) = true then ((at_ a0 x592).bind fun x595 => ((files_Store_find_1 x595 a1).bind fun y602 => (some (x592, y602 == 0)))) else (some (x592, false))
noncomputable def slices_BinarySearchFunc_files_file_files_file_string_x1_0 (a0 : (List S73)) (a1 : (List UInt8)) (x712 : Int) : Option (Int × Bool) :=
  slices_BinarySearchFunc_files_file_files_file_string_b1 a0 a1 x712
noncomputable def slices_BinarySearchFunc_files_file_files_file_string_b2 (x740 : Int) (x741 : Int) : Option ((Int × Int) ⊕ ((Int))) :=
  some (.inl (x740, x741))
noncomputable def slices_BinarySearchFunc_files_file_files_file_string_l1 (a0 : (List S73)) (a1 : (List UInt8)) (x657 : Int) (x658 : Int) : Option ((Int × Int) ⊕ ((Int))) :=
  if (decide (x657 < x658)) = true then (ltt (IntKind.i64.wrap (x657 + x658)) fun x743 => (ltt (IntKind.u64.wrap x743) fun x745 => (ltt (ishr .u64 x745 1) fun x747 => (ltt (IntKind.i64.wrap x747) fun x749 => ((at_ a0 x749).bind fun x752 => ((files_Store_find_1 x752 a1).bind fun y759 => (if (decide (y759 < 0)) = true then (ltt (IntKind.i64.wrap (x749 + 1)) fun x762 => (slices_BinarySearchFunc_files_file_files_file_string_b2 x762 x658)) else (slices_BinarySearchFunc_files_file_files_file_string_b2 x657 x749)))))))) else (some (.inr (x657)))
noncomputable def slices_BinarySearchFunc_files_file_files_file_string (a0 : (List S73)) (a1 : (List UInt8)) : Option (Int × Bool) :=
  (loop (fun s => slices_BinarySearchFunc_files_file_files_file_string_l1 a0 a1 s.1 s.2) (0, (a0.length : Int))).bind fun t => slices_BinarySearchFunc_files_file_files_file_string_x1_0 a0 a1 t

/-! (*headrace/files.Store).find -/
noncomputable def files_Store_find (a0 : S68) (a1 : (List UInt8)) : Option (Int × Bool) :=
  (slices_BinarySearchFunc_files_file_files_file_string a0.f0 a1).bind fun y103 => (some (y103.1, y103.2))

/-! (*headrace/files.Store).look -/
noncomputable def files_Store_look (a0 : (Option S68)) (a1 : (List UInt8)) : Option (Int) :=
  match a0 with | none => (some 5) | some x101 => ((files_Form a1).bind fun y116 => (if (!y116) = true then (some 1) else (if x101.f3 = true then (some 9) else (some 0))))

/-! (*headrace/files.Store).begin -/
noncomputable def files_Store_begin_j1 (a0 : S68) (x106 : Int) (x114 : Int) (b115 : Bool) : Option (Bool × S68) :=
  some (!b115, (⟨a0.f0, a0.f1, x114, b115, x106⟩ : S68))
noncomputable def files_Store_begin (a0 : S68) : Option (Bool × S68) :=
  ltt (IntKind.i64.wrap (a0.f4 + 1)) fun x106 => (if (decide (0 < a0.f2)) = true then (ltt (IntKind.i64.wrap (a0.f2 - 1)) fun x120 => (files_Store_begin_j1 a0 x106 x120 (x120 == 0))) else (files_Store_begin_j1 a0 x106 a0.f2 a0.f3))

/-! (*headrace/files.Store).On -/
noncomputable def files_Store_On (a0 : (Option S68)) : Option (Bool) :=
  match a0 with | none => (some false) | some x101 => (some (!x101.f3))

/-! (*headrace/files.Store).Ops -/
noncomputable def files_Store_Ops (a0 : (Option S68)) : Option (Int) :=
  match a0 with | none => (some 0) | some x101 => (some x101.f4)

/-! (*headrace/files.Store).Used -/
noncomputable def files_Store_Used_b1 (x309 : Int) : Option (Int) :=
  some x309
noncomputable def files_Store_Used_x1_0 (x353 : Int) : Option (Int) :=
  files_Store_Used_b1 x353
noncomputable def files_Store_Used_l1 (x101 : S68) (x331 : Int) (x332 : Int) : Option ((Int × Int) ⊕ ((Int))) :=
  if (decide (x332 < (x101.f0.length : Int))) = true then ((at_ x101.f0 x332).bind fun x361 => (ltt (IntKind.i64.wrap (x331 + (x361.f1.length : Int))) fun x369 => (ltt (IntKind.i64.wrap (x332 + 1)) fun x371 => (some (.inl (x369, x371)))))) else (some (.inr (x331)))
noncomputable def files_Store_Used (a0 : (Option S68)) : Option (Int) :=
  match a0 with | none => (some 0) | some x101 => ((loop (fun s => files_Store_Used_l1 x101 s.1 s.2) (0, 0)).bind fun t => files_Store_Used_x1_0 t)

/-! (*headrace/files.Store).List -/
noncomputable def files_Store_List_b1 (l399 : (List (List UInt8))) : Option ((List (List UInt8))) :=
  some l399
noncomputable def files_Store_List_x1_0 (l469 : (List (List UInt8))) : Option ((List (List UInt8))) :=
  files_Store_List_b1 l469
noncomputable def files_Store_List_l1 (x101 : S68) (l438 : (List (List UInt8))) (x442 : Int) : Option (((List (List UInt8)) × Int) ⊕ (((List (List UInt8))))) :=
  if (decide (x442 < (x101.f0.length : Int))) = true then ((at_ x101.f0 x442).bind fun x480 => (chk (l438.length + [x480.f0].length ≤ 140737488355328 / 16) (ltt (IntKind.i64.wrap (x442 + 1)) fun x493 => (some (.inl (l438 ++ [x480.f0], x493)))))) else (some (.inr (l438)))
noncomputable def files_Store_List (a0 : (Option S68)) : Option ((List (List UInt8))) :=
  match a0 with | none => (some []) | some x101 => ((loop (fun s => files_Store_List_l1 x101 s.1 s.2) ([], 0)).bind fun t => files_Store_List_x1_0 t)

/-! headrace/files.New -/
noncomputable def files_New_j1 (a0 : Int) (b105 : Bool) : Option ((Option S68) × Int) :=
  if b105 = true then (some (none, 1)) else (some (some (⟨[], a0, 0, false, 0⟩ : S68), 0))
noncomputable def files_New (a0 : Int) : Option ((Option S68) × Int) :=
  if (decide (a0 < 1)) = true then (files_New_j1 a0 true) else (files_New_j1 a0 (decide (16777216 < a0)))

/-! (*headrace/files.Store).Arm -/
noncomputable def files_Store_Arm (a0 : (Option S68)) (a1 : Int) : Option (Int × (Option S68)) :=
  match a0 with | none => (some (5, none)) | some x101 => (if (decide (a1 < 0)) = true then (some (1, some x101)) else (some (0, some (⟨x101.f0, x101.f1, a1, x101.f3, x101.f4⟩ : S68))))

/-! (*headrace/files.Store).Append -/
noncomputable def files_Store_Append_j2 (a2 : (List Int)) (y129 : (Int × Bool)) (y151 : (Bool × S68)) (l165 : (List S73)) : Option (Int × (Option S68)) :=
  (at_ l165 y129.1).bind fun x170 => (chk (x170.f1.length + a2.length ≤ 140737488355328 / 1) (if (!y151.1) = true then (some (9, some (⟨l165.set y129.1.toNat (⟨x170.f0, x170.f1 ++ a2, x170.f2⟩ : S73), y151.2.f1, y151.2.f2, y151.2.f3, y151.2.f4⟩ : S68))) else (some (0, some (⟨l165.set y129.1.toNat (⟨x170.f0, x170.f1 ++ a2, x170.f2⟩ : S73), y151.2.f1, y151.2.f2, y151.2.f3, y151.2.f4⟩ : S68)))))
noncomputable def files_Store_Append_j1 (a1 : (List UInt8)) (a2 : (List Int)) (x101 : S68) (y129 : (Int × Bool)) (b147 : Bool) : Option (Int × (Option S68)) :=
  if b147 = true then (some (10, some x101)) else ((files_Store_begin x101).bind fun y151 => (if (!y129.2) = true then ((ins_ y151.2.f0 y129.1 [(⟨a1, [], 0⟩ : S73)]).bind fun y192 => (files_Store_Append_j2 a2 y129 y151 y192)) else (files_Store_Append_j2 a2 y129 y151 y151.2.f0)))
noncomputable def files_Store_Append (a0 : (Option S68)) (a1 : (List UInt8)) (a2 : (List Int)) : Option (Int × (Option S68)) :=
  match a0 with | none => ((files_Store_look none a1).bind fun y106 => (if (y106 != 0) = true then (some (y106, none)) else (none))) | some x101 => ((files_Store_look (some x101) a1).bind fun y118 => (if (y118 != 0) = true then (some (y118, some x101)) else ((files_Store_find x101 a1).bind fun y129 => ((files_Store_Used (some x101)).bind fun y197 => (ltt (IntKind.i64.wrap (x101.f1 - y197)) fun x204 => (if (decide (x204 < (a2.length : Int))) = true then (files_Store_Append_j1 a1 a2 x101 y129 true) else (if (!y129.2) = true then (files_Store_Append_j1 a1 a2 x101 y129 (decide (500 ≤ (x101.f0.length : Int)))) else (files_Store_Append_j1 a1 a2 x101 y129 false))))))))

/-! slices.Clone[[]byte,byte] -/
noncomputable def slices_Clone_byte_byte (a0 : (List Int)) : Option ((List Int)) :=
  nilsplit (a0).isEmpty (some []) (chk (([] : List Int).length + a0.length ≤ 140737488355328 / 1) (some a0))

/-! (*headrace/files.Store).Read -/
noncomputable def files_Store_Read (a0 : (Option S68)) (a1 : (List UInt8)) : Option ((List Int) × Int) :=
  match a0 with | none => ((files_Store_look none a1).bind fun y106 => (if (y106 != 0) = true then (some ([], y106)) else (none))) | some x101 => ((files_Store_look (some x101) a1).bind fun y118 => (if (y118 != 0) = true then (some ([], y118)) else ((files_Store_find x101 a1).bind fun y129 => (if (!y129.2) = true then (some ([], 5)) else ((at_ x101.f0 y129.1).bind fun x136 => ((slices_Clone_byte_byte x136.f1).bind fun y145 => (some (y145, 0))))))))
end Go.Proofs.Ytgjhiojkkjaloaa.M
