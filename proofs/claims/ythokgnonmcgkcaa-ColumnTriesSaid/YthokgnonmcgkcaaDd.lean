/- Plain functions: what the Go functions of this part come to. -/
import Derived.Test.YthokgnonmcgkcaaDc
namespace Go.Proofs.Ythokgnonmcgkcaa.M
open Go Go.RowKit Go.Proofs.Ythokgnonmcgkcaa.E
set_option linter.unusedVariables false
set_option linter.unusedSimpArgs false

/-! (*headrace/column.Reader).Check -/
noncomputable def column_Reader_Check (a0 : S72) (a1 : Bool) : Option ((S72) ⊕ (S72)) :=
  if (!a1) = true then (some (.inr a0)) else (some (.inl a0))

/-! (*headrace/column.Reader).Byte -/
noncomputable def column_Reader_Byte (a0 : S72) : Option ((Int × S72) ⊕ (S72)) :=
  (column_Reader_Check a0 (decide (0 < (a0.f0.length : Int)))).bind fun y107 => (sum_ y107 (fun y107 => ((at_ y107.f0 0).bind fun x118 => ((cut_ y107.f0 1 (y107.f0.length : Int)).bind fun l122 => (some (.inl (x118, (⟨l122⟩ : S72))))))) (fun y107 => (some (.inr y107))))

/-! (*headrace/column.Reader).Uint -/
noncomputable def column_Reader_Uint_j2 (x536 : Int) (l573 : (List Int)) : Option (((List Int) × Int × Int) ⊕ (((Int × S72) ⊕ (S72)))) :=
  some (.inr (.inl (x536, (⟨l573⟩ : S72))))
noncomputable def column_Reader_Uint_j1 (a1 : Int) (x293 : Int) (x294 : Int) (y478 : (Int × S72)) (l521 : (List Int)) : Option (((List Int) × Int × Int) ⊕ (((Int × S72) ⊕ (S72)))) :=
  ltt (iand .u8 y478.1 127) fun x527 => (ltt (IntKind.u64.wrap x527) fun x529 => (ltt (IntKind.i64.wrap (7 * x294)) fun x531 => (chk (0 ≤ x531) (ltt (ishl .u64 x529 x531) fun x534 => (ltt (ior .u64 x293 x534) fun x536 => (if (decide (y478.1 < 128)) = true then (if (decide (x536 ≤ a1)) = true then (if (x294 == 0) = true then ((column_Reader_Check (⟨l521⟩ : S72) true).bind fun y581 => (sum_ y581 (fun y581 => (column_Reader_Uint_j2 x536 y581.f0)) (fun y581 => (some (.inr (.inr y581)))))) else ((column_Reader_Check (⟨l521⟩ : S72) (decide (0 < y478.1))).bind fun y591 => (sum_ y591 (fun y591 => (column_Reader_Uint_j2 x536 y591.f0)) (fun y591 => (some (.inr (.inr y591))))))) else ((column_Reader_Check (⟨l521⟩ : S72) false).bind fun y601 => (sum_ y601 (fun y601 => (column_Reader_Uint_j2 x536 y601.f0)) (fun y601 => (some (.inr (.inr y601))))))) else (ltt (IntKind.i64.wrap (x294 + 1)) fun x611 => (some (.inl (l521, x536, x611))))))))))
noncomputable def column_Reader_Uint_l1 (a1 : Int) (l288 : (List Int)) (x293 : Int) (x294 : Int) : Option (((List Int) × Int × Int) ⊕ (((Int × S72) ⊕ (S72)))) :=
  (column_Reader_Byte (⟨l288⟩ : S72)).bind fun y478 => (sum_ y478 (fun y478 => (if (decide (x294 < 9)) = true then ((column_Reader_Check y478.2 true).bind fun y614 => (sum_ y614 (fun y614 => (column_Reader_Uint_j1 a1 x293 x294 y478 y614.f0)) (fun y614 => (some (.inr (.inr y614)))))) else (if (x294 == 9) = true then ((column_Reader_Check y478.2 (decide (y478.1 < 2))).bind fun y625 => (sum_ y625 (fun y625 => (column_Reader_Uint_j1 a1 x293 x294 y478 y625.f0)) (fun y625 => (some (.inr (.inr y625)))))) else ((column_Reader_Check y478.2 false).bind fun y635 => (sum_ y635 (fun y635 => (column_Reader_Uint_j1 a1 x293 x294 y478 y635.f0)) (fun y635 => (some (.inr (.inr y635))))))))) (fun y478 => (some (.inr (.inr y478)))))
noncomputable def column_Reader_Uint (a0 : S72) (a1 : Int) : Option ((Int × S72) ⊕ (S72)) :=
  (loop (fun s => column_Reader_Uint_l1 a1 s.1 s.2.1 s.2.2) (a0.f0, 0, 0)).bind fun t => some t

/-! (*headrace/column.Reader).Int -/
noncomputable def column_Reader_Int (a0 : S72) : Option ((Int × S72) ⊕ (S72)) :=
  (column_Reader_Uint a0 18446744073709551615).bind fun y107 => (sum_ y107 (fun y107 => (ltt (ishr .u64 y107.1 1) fun x118 => (ltt (IntKind.i64.wrap x118) fun x120 => (ltt (iand .u64 y107.1 1) fun x122 => (ltt (IntKind.i64.wrap x122) fun x124 => (ltt (ixor .i64 x120 (IntKind.i64.wrap (0 - x124))) fun x126 => (some (.inl (x126, y107.2))))))))) (fun y107 => (some (.inr y107))))

/-! (*headrace/column.Reader).Text -/
noncomputable def column_Reader_Text (a0 : S72) (a1 : Int) : Option (((List UInt8) × S72) ⊕ (S72)) :=
  ltt (IntKind.u64.wrap a1) fun x107 => ((column_Reader_Uint a0 x107).bind fun y109 => (sum_ y109 (fun y109 => (ltt (IntKind.u64.wrap (y109.2.f0.length : Int)) fun x120 => ((column_Reader_Check y109.2 (decide (y109.1 ≤ x120))).bind fun y122 => (sum_ y122 (fun y122 => ((cut_ y122.f0 0 y109.1).bind fun l133 => ((cut_ y122.f0 y109.1 (y122.f0.length : Int)).bind fun l137 => (some (.inl (bts l133, (⟨l137⟩ : S72))))))) (fun y122 => (some (.inr y122))))))) (fun y109 => (some (.inr y109)))))

/-! headrace/column.list[int64] -/
noncomputable def column_list_int64_b1 (l464 : (List Int)) (l469 : (List Int)) : Option (((List Int) × S72) ⊕ (S72)) :=
  some (.inl (l469, (⟨l464⟩ : S72)))
noncomputable def column_list_int64_x1_0 (l556 : (List Int)) (l561 : (List Int)) : Option (((List Int) × S72) ⊕ (S72)) :=
  column_list_int64_b1 l556 l561
noncomputable def column_list_int64_l1 (a0 : Int) (l514 : (List Int)) (l519 : (List Int)) (x523 : Int) : Option (((List Int) × (List Int) × Int) ⊕ (((List Int) × (List Int)) ⊕ (((List Int) × S72) ⊕ (S72)))) :=
  if (decide (x523 < a0)) = true then ((column_Reader_Int (⟨l514⟩ : S72)).bind fun y571 => (sum_ y571 (fun y571 => (chk (l519.length + [y571.1].length ≤ 140737488355328 / 8) (ltt (IntKind.i64.wrap (x523 + 1)) fun x586 => (some (.inl (y571.2.f0, l519 ++ [y571.1], x586)))))) (fun y571 => (some (.inr (.inr (.inr y571))))))) else (some (.inr (.inl (l514, l519))))
noncomputable def column_list_int64 (a0 : Int) (a60 : S72) : Option (((List Int) × S72) ⊕ (S72)) :=
  (loop (fun s => column_list_int64_l1 a0 s.1 s.2.1 s.2.2) (a60.f0, [], 0)).bind fun t => match t with | (.inl t) => column_list_int64_x1_0 t.1 t.2 | (.inr t) => some t

/-! headrace/column.unpack -/
noncomputable def column_unpack_b2 (l2329 : (List Int)) : Option (((List Int) × S72) ⊕ (S72)) :=
  some (.inl (l2329, (⟨[]⟩ : S72)))
noncomputable def column_unpack_x1_2 (l2364 : (List Int)) : Option (((List Int) × S72) ⊕ (S72)) :=
  column_unpack_b2 l2364
noncomputable def column_unpack_l1 (y107 : (Int × S72)) (l2180 : (List Int)) (l2347 : (List Int)) (x2348 : Int) : Option (((List Int) × Int) ⊕ (((List Int)))) :=
  if (decide (x2348 < (l2180.length : Int))) = true then ((at_ l2347 x2348).bind fun x2372 => (ltt (IntKind.i64.wrap (x2372 + y107.1)) fun x2375 => (ltt (IntKind.i64.wrap (x2348 + 1)) fun x2377 => (some (.inl (l2347.set x2348.toNat x2375, x2377)))))) else (some (.inr (l2347)))
noncomputable def column_unpack_b1 (y107 : (Int × S72)) (l2175 : (List Int)) (l2180 : (List Int)) : Option (((List Int) × S72) ⊕ (S72)) :=
  (loop (fun s => column_unpack_l1 y107 l2180 s.1 s.2) (l2180, 0)).bind fun t => column_unpack_x1_2 t
noncomputable def column_unpack_x2_0 (y107 : (Int × S72)) (l2828 : (List Int)) (l2833 : (List Int)) : Option (((List Int) × S72) ⊕ (S72)) :=
  column_unpack_b1 y107 l2828 l2833
noncomputable def column_unpack_b3 (x2606 : Int) (l2992 : (List Int)) (l2997 : (List Int)) : Option (((List Int) × (List Int) × Int) ⊕ (((List Int) × (List Int)) ⊕ (((List Int) × S72) ⊕ (S72)))) :=
  ltt (IntKind.i64.wrap (x2606 + 1)) fun x2998 => (some (.inl (l2992, l2997, x2998)))
noncomputable def column_unpack_l2 (a1 : Int) (x127 : Int) (x1502 : Int) (l2600 : (List Int)) (l2605 : (List Int)) (x2606 : Int) : Option (((List Int) × (List Int) × Int) ⊕ (((List Int) × (List Int)) ⊕ (((List Int) × S72) ⊕ (S72)))) :=
  if (decide (x2606 < x1502)) = true then (ltt (IntKind.i64.wrap (x2606.tdiv 8)) fun x3002 => ((at_ l2600 x3002).bind fun x3004 => (ltt (x2606.tmod 8) fun x3007 => (chk (0 ≤ x3007) (ltt (ishr .u8 x3004 x3007) fun x3010 => (ltt (IntKind.u64.wrap x3010) fun x3012 => (ltt (iand .u64 x3012 1) fun x3014 => (ltt (IntKind.i64.wrap (a1 * x127)) fun x3018 => (if (decide (x3018 ≤ x2606)) = true then ((column_Reader_Check (⟨l2600⟩ : S72) (x3014 == 0)).bind fun y3022 => (sum_ y3022 (fun y3022 => (column_unpack_b3 x2606 y3022.f0 l2605)) (fun y3022 => (some (.inr (.inr (.inr y3022))))))) else (chk (x127 ≠ 0) (ltt (IntKind.i64.wrap (x2606.tdiv x127)) fun x3033 => ((at_ l2605 x3033).bind fun x3035 => (chk (x127 ≠ 0) (ltt (x2606.tmod x127) fun x3039 => (chk (0 ≤ x3039) (ltt (ishl .u64 x3014 x3039) fun x3042 => (ltt (IntKind.i64.wrap x3042) fun x3044 => (ltt (ior .i64 x3035 x3044) fun x3046 => (column_unpack_b3 x2606 l2600 (l2605.set x3033.toNat x3046)))))))))))))))))))) else (some (.inr (.inl (l2600, l2605))))
noncomputable def column_unpack_j1 (a1 : Int) (y107 : (Int × S72)) (x127 : Int) (l157 : (List Int)) : Option (((List Int) × S72) ⊕ (S72)) :=
  chk (0 ≤ a1 ∧ (8 : Int) * a1 ≤ 140737488355328) (ltt (IntKind.i64.wrap (8 * (l157.length : Int))) fun x1502 => ((loop (fun s => column_unpack_l2 a1 x127 x1502 s.1 s.2.1 s.2.2) (l157, List.replicate a1.toNat 0, 0)).bind fun t => match t with | (.inl t) => column_unpack_x2_0 y107 t.1 t.2 | (.inr t) => some t))
noncomputable def column_unpack (a0 : S72) (a1 : Int) : Option (((List Int) × S72) ⊕ (S72)) :=
  (column_Reader_Int a0).bind fun y107 => (sum_ y107 (fun y107 => ((column_Reader_Byte y107.2).bind fun y117 => (sum_ y117 (fun y117 => (ltt (IntKind.i64.wrap y117.1) fun x127 => (if (decide (x127 ≤ 64)) = true then (ltt (IntKind.i64.wrap (a1 * x127)) fun x3049 => (ltt (IntKind.i64.wrap (x3049 + 7)) fun x3051 => (ltt (IntKind.i64.wrap (x3051.tdiv 8)) fun x3053 => ((column_Reader_Check y117.2 ((y117.2.f0.length : Int) == x3053)).bind fun y3055 => (sum_ y3055 (fun y3055 => (column_unpack_j1 a1 y107 x127 y3055.f0)) (fun y3055 => (some (.inr y3055)))))))) else ((column_Reader_Check y117.2 false).bind fun y3065 => (sum_ y3065 (fun y3065 => (column_unpack_j1 a1 y107 x127 y3065.f0)) (fun y3065 => (some (.inr y3065)))))))) (fun y117 => (some (.inr y117)))))) (fun y107 => (some (.inr y107))))

/-! headrace/column.ints -/
noncomputable def column_ints_b1 (l6763 : (List Int)) (l6768 : (List Int)) : Option (((List Int) × S72) ⊕ (S72)) :=
  some (.inl (l6768, (⟨l6763⟩ : S72)))
noncomputable def column_ints_b2 (l6919 : (List Int)) (l6924 : (List Int)) : Option (((List Int) × S72) ⊕ (S72)) :=
  column_ints_b1 l6919 l6924
noncomputable def column_ints_x1_1 (l7019 : (List Int)) (l7024 : (List Int)) : Option (((List Int) × S72) ⊕ (S72)) :=
  column_ints_b2 l7019 l7024
noncomputable def column_ints_l1 (x139 : Int) (l6972 : (List Int)) (l6977 : (List Int)) (x6981 : Int) (x6982 : Int) : Option (((List Int) × (List Int) × Int × Int) ⊕ (((List Int) × (List Int)) ⊕ (((List Int) × S72) ⊕ (S72)))) :=
  if (decide (x6982 < x139)) = true then ((column_Reader_Int (⟨l6972⟩ : S72)).bind fun y7035 => (sum_ y7035 (fun y7035 => (ltt (IntKind.i64.wrap (x6981 + y7035.1)) fun x7045 => (chk (l6977.length + [x7045].length ≤ 140737488355328 / 8) (ltt (IntKind.i64.wrap (x6982 + 1)) fun x7052 => (some (.inl (y7035.2.f0, l6977 ++ [x7045], x7045, x7052))))))) (fun y7035 => (some (.inr (.inr (.inr y7035))))))) else (some (.inr (.inl (l6972, l6977))))
noncomputable def column_ints_b3 (l8002 : (List Int)) (l8007 : (List Int)) : Option (((List Int) × S72) ⊕ (S72)) :=
  column_ints_b1 l8002 l8007
noncomputable def column_ints_x2_3 (l8646 : (List Int)) (l8651 : (List Int)) : Option (((List Int) × S72) ⊕ (S72)) :=
  column_ints_b3 l8646 l8651
noncomputable def column_ints_b4 (y8826 : (Int × S72)) (l8895 : (List Int)) : Option (((List Int) × (List Int)) ⊕ (((List Int) × (List Int)) ⊕ (((List Int) × S72) ⊕ (S72)))) :=
  some (.inl (y8826.2.f0, l8895))
noncomputable def column_ints_x3_5 (y8826 : (Int × S72)) (l8938 : (List Int)) : Option (((List Int) × (List Int)) ⊕ (((List Int) × (List Int)) ⊕ (((List Int) × S72) ⊕ (S72)))) :=
  column_ints_b4 y8826 l8938
noncomputable def column_ints_l3 (y8809 : (Int × S72)) (x8836 : Int) (l8916 : (List Int)) (x8920 : Int) : Option (((List Int) × Int) ⊕ (((List Int)))) :=
  if (decide (x8920 < x8836)) = true then (chk (l8916.length + [y8809.1].length ≤ 140737488355328 / 8) (ltt (IntKind.u64.wrap (x8920 + 1)) fun x8953 => (some (.inl (l8916 ++ [y8809.1], x8953))))) else (some (.inr (l8916)))
noncomputable def column_ints_l2 (x139 : Int) (l8328 : (List Int)) (l8333 : (List Int)) : Option (((List Int) × (List Int)) ⊕ (((List Int) × (List Int)) ⊕ (((List Int) × S72) ⊕ (S72)))) :=
  if (decide ((l8333.length : Int) < x139)) = true then ((column_Reader_Int (⟨l8328⟩ : S72)).bind fun y8809 => (sum_ y8809 (fun y8809 => (ltt (IntKind.i64.wrap (x139 - (l8333.length : Int))) fun x8820 => (ltt (IntKind.i64.wrap (x8820 - 1)) fun x8822 => (ltt (IntKind.u64.wrap x8822) fun x8824 => ((column_Reader_Uint y8809.2 x8824).bind fun y8826 => (sum_ y8826 (fun y8826 => (ltt (IntKind.u64.wrap (1 + y8826.1)) fun x8836 => ((loop (fun s => column_ints_l3 y8809 x8836 s.1 s.2) (l8333, 0)).bind fun t => column_ints_x3_5 y8826 t))) (fun y8826 => (some (.inr (.inr (.inr y8826))))))))))) (fun y8809 => (some (.inr (.inr (.inr y8809))))))) else (some (.inr (.inl (l8328, l8333))))
noncomputable def column_ints (a0 : S72) : Option (((List Int) × S72) ⊕ (S72)) :=
  (column_Reader_Byte a0).bind fun y107 => (sum_ y107 (fun y107 => ((column_Reader_Check y107.2 (decide (y107.1 ≤ 3))).bind fun y118 => (sum_ y118 (fun y118 => ((column_Reader_Uint y118 4096).bind fun y129 => (sum_ y129 (fun y129 => (ltt (IntKind.i64.wrap y129.1) fun x139 => (if (y107.1 == 0) = true then ((column_list_int64 x139 y129.2).bind fun y6775 => (sum_ y6775 (fun y6775 => (column_ints_b1 y6775.2.f0 y6775.1)) (fun y6775 => (some (.inr y6775))))) else (if (y107.1 == 1) = true then ((loop (fun s => column_ints_l1 x139 s.1 s.2.1 s.2.2.1 s.2.2.2) (y129.2.f0, [], 0, 0)).bind fun t => match t with | (.inl t) => column_ints_x1_1 t.1 t.2 | (.inr t) => some t) else (if (y107.1 == 2) = true then ((loop (fun s => column_ints_l2 x139 s.1 s.2) (y129.2.f0, [])).bind fun t => match t with | (.inl t) => column_ints_x2_3 t.1 t.2 | (.inr t) => some t) else (if (y107.1 == 3) = true then (if (decide (0 < x139)) = true then ((column_unpack y129.2 x139).bind fun y8959 => (sum_ y8959 (fun y8959 => (column_ints_b1 y8959.2.f0 y8959.1)) (fun y8959 => (some (.inr y8959))))) else (column_ints_b1 y129.2.f0 [])) else (column_ints_b1 y129.2.f0 []))))))) (fun y129 => (some (.inr y129)))))) (fun y118 => (some (.inr y118)))))) (fun y107 => (some (.inr y107))))

/-! headrace/column.ReadInts$1 -/
noncomputable def column_ReadInts_1 (a0 : S72) (a1 : (List Int)) : Option ((S72 × (List Int)) ⊕ (S72 × (List Int))) :=
  (column_ints a0).bind fun y108 => (sum_ y108 (fun y108 => (some (.inl (y108.2, y108.1)))) (fun y108 => (some (.inr (y108, a1)))))

/-! headrace/column.Try@ReadInts -/
noncomputable def Try_column_ReadInts_1 (a0 : (List Int)) (a60 : (List Int)) : Option (Bool × (List Int)) :=
  (column_ReadInts_1 (⟨a0⟩ : S72) a60).bind fun y => (sum_ y (fun y => some ((((y.1.f0.length : Int) == 0), y.2))) (fun y => some ((false, y.2))))

/-! headrace/column.ReadInts -/
noncomputable def column_ReadInts (a0 : (List Int)) : Option ((List Int) × Int) :=
  (Try_column_ReadInts_1 a0 []).bind fun y106 => (if (!y106.1) = true then (some ([], 3)) else (some (y106.2, 0)))
end Go.Proofs.Ythokgnonmcgkcaa.M
