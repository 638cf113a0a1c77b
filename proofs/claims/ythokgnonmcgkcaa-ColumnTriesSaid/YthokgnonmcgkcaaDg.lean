/- Plain functions: what the Go functions of this part come to. -/
import Derived.Test.YthokgnonmcgkcaaDf
namespace Go.Proofs.Ythokgnonmcgkcaa.M
open Go Go.RowKit Go.Proofs.Ythokgnonmcgkcaa.E
set_option linter.unusedVariables false
set_option linter.unusedSimpArgs false

/-! slices.Index[[]bool,bool] -/
noncomputable def slices_Index_bool_bool_b1 : Option (Int) :=
  some (-1)
noncomputable def slices_Index_bool_bool_x1_0 : Option (Int) :=
  slices_Index_bool_bool_b1
noncomputable def slices_Index_bool_bool_l1 (a0 : (List Bool)) (a1 : Bool) (x262 : Int) : Option ((Int) ⊕ ((Unit) ⊕ (Int))) :=
  if (decide (x262 < (a0.length : Int))) = true then ((at_ a0 x262).bind fun x286 => (if (a1 == x286) = true then (some (.inr (.inr x262))) else (ltt (IntKind.i64.wrap (x262 + 1)) fun x291 => (some (.inl (x291)))))) else (some (.inr (.inl ())))
noncomputable def slices_Index_bool_bool (a0 : (List Bool)) (a1 : Bool) : Option (Int) :=
  (loop (fun s => slices_Index_bool_bool_l1 a0 a1 s) (0)).bind fun t => match t with | (.inl t) => slices_Index_bool_bool_x1_0 | (.inr t) => some t

/-! slices.Contains[[]bool,bool] -/
noncomputable def slices_Contains_bool_bool (a0 : (List Bool)) (a1 : Bool) : Option (Bool) :=
  (slices_Index_bool_bool a0 a1).bind fun y103 => (some (decide (0 ≤ y103)))

/-! headrace/column.ReadTexts$1 -/
noncomputable def column_ReadTexts_1_b2 (l1851 : (List Int)) (l1856 : (List (List UInt8))) (l1860 : (List Bool)) : Option ((S72 × (List (List UInt8))) ⊕ (S72 × (List (List UInt8)))) :=
  (slices_Contains_bool_bool l1860 false).bind fun y1861 => ((column_Reader_Check (⟨l1851⟩ : S72) (!y1861)).bind fun y1863 => (sum_ y1863 (fun y1863 => (some (.inl (y1863, l1856)))) (fun y1863 => (some (.inr (y1863, l1856))))))
noncomputable def column_ReadTexts_1_x1_2 (l2048 : (List Int)) (l2053 : (List (List UInt8))) (l2057 : (List Bool)) : Option ((S72 × (List (List UInt8))) ⊕ (S72 × (List (List UInt8)))) :=
  column_ReadTexts_1_b2 l2048 l2053 l2057
noncomputable def column_ReadTexts_1_j1 (l1031 : (List (List UInt8))) (l1960 : (List (List UInt8))) (l1964 : (List Bool)) (x1965 : Int) (x2065 : Int) (l2090 : (List Int)) : Option (((List Int) × (List (List UInt8)) × (List Bool) × Int) ⊕ (((List Int) × (List (List UInt8)) × (List Bool)) ⊕ ((S72 × (List (List UInt8))) ⊕ (S72 × (List (List UInt8)))))) :=
  (at_ l1964 x2065).bind fun x2096 => ((at_ l1031 x2065).bind fun x2098 => (chk (l1960.length + [x2098].length ≤ 140737488355328 / 16) (ltt (IntKind.i64.wrap (x1965 + 1)) fun x2106 => (some (.inl (l2090, l1960 ++ [x2098], l1964.set x2065.toNat true, x2106))))))
noncomputable def column_ReadTexts_1_l1 (l1031 : (List (List UInt8))) (y1580 : ((List Int) × S72)) (l1955 : (List Int)) (l1960 : (List (List UInt8))) (l1964 : (List Bool)) (x1965 : Int) : Option (((List Int) × (List (List UInt8)) × (List Bool) × Int) ⊕ (((List Int) × (List (List UInt8)) × (List Bool)) ⊕ ((S72 × (List (List UInt8))) ⊕ (S72 × (List (List UInt8)))))) :=
  if (decide (x1965 < (y1580.1.length : Int))) = true then ((at_ y1580.1 x1965).bind fun x2065 => (if (decide (0 ≤ x2065)) = true then ((column_Reader_Check (⟨l1955⟩ : S72) (decide (x2065 < (l1031.length : Int)))).bind fun y2109 => (sum_ y2109 (fun y2109 => (column_ReadTexts_1_j1 l1031 l1960 l1964 x1965 x2065 y2109.f0)) (fun y2109 => (some (.inr (.inr (.inr (y2109, l1960)))))))) else ((column_Reader_Check (⟨l1955⟩ : S72) false).bind fun y2119 => (sum_ y2119 (fun y2119 => (column_ReadTexts_1_j1 l1031 l1960 l1964 x1965 x2065 y2119.f0)) (fun y2119 => (some (.inr (.inr (.inr (y2119, l1960)))))))))) else (some (.inr (.inl (l1955, l1960, l1964))))
noncomputable def column_ReadTexts_1_b1 (a1 : (List (List UInt8))) (l1026 : (List Int)) (l1031 : (List (List UInt8))) : Option ((S72 × (List (List UInt8))) ⊕ (S72 × (List (List UInt8)))) :=
  chk (0 ≤ (l1031.length : Int) ∧ (1 : Int) * (l1031.length : Int) ≤ 140737488355328) ((column_ints (⟨l1026⟩ : S72)).bind fun y1580 => (sum_ y1580 (fun y1580 => ((loop (fun s => column_ReadTexts_1_l1 l1031 y1580 s.1 s.2.1 s.2.2.1 s.2.2.2) (y1580.2.f0, a1, List.replicate (l1031.length : Int).toNat false, 0)).bind fun t => match t with | (.inl t) => column_ReadTexts_1_x1_2 t.1 t.2.1 t.2.2 | (.inr t) => some t)) (fun y1580 => (some (.inr (y1580, a1))))))
noncomputable def column_ReadTexts_1_x2_0 (a1 : (List (List UInt8))) (l2331 : (List Int)) (l2336 : (List (List UInt8))) : Option ((S72 × (List (List UInt8))) ⊕ (S72 × (List (List UInt8)))) :=
  column_ReadTexts_1_b1 a1 l2331 l2336
noncomputable def column_ReadTexts_1_j2 (l2234 : (List (List UInt8))) (x2238 : Int) (y2347 : ((List UInt8) × S72)) (l2384 : (List Int)) : Option (((List Int) × (List (List UInt8)) × Int) ⊕ (((List Int) × (List (List UInt8))) ⊕ ((S72 × (List (List UInt8))) ⊕ (S72 × (List (List UInt8)))))) :=
  chk (l2234.length + [y2347.1].length ≤ 140737488355328 / 16) (ltt (IntKind.u64.wrap (x2238 + 1)) fun x2394 => (some (.inl (l2384, l2234 ++ [y2347.1], x2394))))
noncomputable def column_ReadTexts_1_l2 (a1 : (List (List UInt8))) (y721 : (Int × S72)) (l2229 : (List Int)) (l2234 : (List (List UInt8))) (x2238 : Int) : Option (((List Int) × (List (List UInt8)) × Int) ⊕ (((List Int) × (List (List UInt8))) ⊕ ((S72 × (List (List UInt8))) ⊕ (S72 × (List (List UInt8)))))) :=
  if (decide (x2238 < y721.1)) = true then ((column_Reader_Text (⟨l2229⟩ : S72) 32).bind fun y2347 => (sum_ y2347 (fun y2347 => (if ((l2234.length : Int) == 0) = true then ((column_Reader_Check y2347.2 true).bind fun y2397 => (sum_ y2397 (fun y2397 => (column_ReadTexts_1_j2 l2234 x2238 y2347 y2397.f0)) (fun y2397 => (some (.inr (.inr (.inr (y2397, a1)))))))) else (ltt (IntKind.i64.wrap ((l2234.length : Int) - 1)) fun x2407 => ((at_ l2234 x2407).bind fun x2409 => ((column_Reader_Check y2347.2 (Op.bytesLess x2409 y2347.1)).bind fun y2412 => (sum_ y2412 (fun y2412 => (column_ReadTexts_1_j2 l2234 x2238 y2347 y2412.f0)) (fun y2412 => (some (.inr (.inr (.inr (y2412, a1)))))))))))) (fun y2347 => (some (.inr (.inr (.inr (y2347, a1)))))))) else (some (.inr (.inl (l2229, l2234))))
noncomputable def column_ReadTexts_1 (a0 : S72) (a1 : (List (List UInt8))) : Option ((S72 × (List (List UInt8))) ⊕ (S72 × (List (List UInt8)))) :=
  (column_Reader_Uint a0 4096).bind fun y721 => (sum_ y721 (fun y721 => ((loop (fun s => column_ReadTexts_1_l2 a1 y721 s.1 s.2.1 s.2.2) (y721.2.f0, [], 0)).bind fun t => match t with | (.inl t) => column_ReadTexts_1_x2_0 a1 t.1 t.2 | (.inr t) => some t)) (fun y721 => (some (.inr (y721, a1)))))

/-! headrace/column.Try@ReadTexts -/
noncomputable def Try_column_ReadTexts_1 (a0 : (List Int)) (a60 : (List (List UInt8))) : Option (Bool × (List (List UInt8))) :=
  (column_ReadTexts_1 (⟨a0⟩ : S72) a60).bind fun y => (sum_ y (fun y => some ((((y.1.f0.length : Int) == 0), y.2))) (fun y => some ((false, y.2))))

/-! headrace/column.ReadTexts -/
noncomputable def column_ReadTexts (a0 : (List Int)) : Option ((List (List UInt8)) × Int) :=
  (Try_column_ReadTexts_1 a0 []).bind fun y105 => (if (!y105.1) = true then (some ([], 3)) else (some (y105.2, 0)))

/-! headrace/headraceref03.ReadTexts -/
noncomputable def r03_ReadTexts_b3 (l1131 : (List (List UInt8))) : Option ((List (List UInt8)) × Bool) :=
  some (l1131, true)
noncomputable def r03_ReadTexts_x1_4 (l1131 : (List (List UInt8))) : Option ((List (List UInt8)) × Bool) :=
  r03_ReadTexts_b3 l1131
noncomputable def r03_ReadTexts_l1 (l1130 : (List Bool)) (x1285 : Int) : Option ((Int) ⊕ ((Unit) ⊕ ((List (List UInt8)) × Bool))) :=
  if (decide (x1285 < (l1130.length : Int))) = true then ((at_ l1130 x1285).bind fun x1307 => (if (!x1307) = true then (some (.inr (.inr ([], false)))) else (ltt (IntKind.i64.wrap (x1285 + 1)) fun x1312 => (some (.inl (x1312)))))) else (some (.inr (.inl ())))
noncomputable def r03_ReadTexts_b2 (l1130 : (List Bool)) (l1131 : (List (List UInt8))) : Option ((List (List UInt8)) × Bool) :=
  (loop (fun s => r03_ReadTexts_l1 l1130 s) (0)).bind fun t => match t with | (.inl t) => r03_ReadTexts_x1_4 l1131 | (.inr t) => some t
noncomputable def r03_ReadTexts_x2_2 (l1416 : (List Bool)) (l1417 : (List (List UInt8))) : Option ((List (List UInt8)) × Bool) :=
  r03_ReadTexts_b2 l1416 l1417
noncomputable def r03_ReadTexts_j1 (l659 : (List (List UInt8))) (y664 : ((List Int) × S26)) (l1366 : (List Bool)) (l1367 : (List (List UInt8))) (x1371 : Int) (b1434 : Bool) : Option (((List Bool) × (List (List UInt8)) × Int) ⊕ (((List Bool) × (List (List UInt8))) ⊕ ((List (List UInt8)) × Bool))) :=
  if b1434 = true then (some (.inr (.inr ([], false)))) else ((at_ y664.1 x1371).bind fun x1438 => ((at_ l1366 x1438).bind fun x1441 => ((at_ l659 x1438).bind fun x1444 => (chk (l1367.length + [x1444].length ≤ 140737488355328 / 16) (ltt (IntKind.i64.wrap (x1371 + 1)) fun x1452 => (some (.inl (l1366.set x1438.toNat true, l1367 ++ [x1444], x1452))))))))
noncomputable def r03_ReadTexts_l2 (l659 : (List (List UInt8))) (y664 : ((List Int) × S26)) (l1366 : (List Bool)) (l1367 : (List (List UInt8))) (x1371 : Int) : Option (((List Bool) × (List (List UInt8)) × Int) ⊕ (((List Bool) × (List (List UInt8))) ⊕ ((List (List UInt8)) × Bool))) :=
  if (decide (x1371 < (y664.1.length : Int))) = true then ((at_ y664.1 x1371).bind fun x1454 => (if (decide (x1454 < 0)) = true then (r03_ReadTexts_j1 l659 y664 l1366 l1367 x1371 true) else (r03_ReadTexts_j1 l659 y664 l1366 l1367 x1371 (decide ((l659.length : Int) ≤ x1454))))) else (some (.inr (.inl (l1366, l1367))))
noncomputable def r03_ReadTexts_b1 (a0 : (List Int)) (l653 : (List Int)) (x658 : Int) (l659 : (List (List UInt8))) : Option ((List (List UInt8)) × Bool) :=
  (r03_Reader_Ints (⟨l653, x658⟩ : S26)).bind fun y664 => (if (y664.2.f1 != (a0.length : Int)) = true then (some ([], false)) else (chk (0 ≤ (l659.length : Int) ∧ (1 : Int) * (l659.length : Int) ≤ 140737488355328) ((loop (fun s => r03_ReadTexts_l2 l659 y664 s.1 s.2.1 s.2.2) (List.replicate (l659.length : Int).toNat false, [], 0)).bind fun t => match t with | (.inl t) => r03_ReadTexts_x2_2 t.1 t.2 | (.inr t) => some t)))
noncomputable def r03_ReadTexts_x3_0 (a0 : (List Int)) (l1582 : (List Int)) (x1587 : Int) (l1588 : (List (List UInt8))) : Option ((List (List UInt8)) × Bool) :=
  r03_ReadTexts_b1 a0 l1582 x1587 l1588
noncomputable def r03_ReadTexts_j3 (l1525 : (List (List UInt8))) (x1529 : Int) (y1601 : ((List UInt8) × S26)) (b1615 : Bool) : Option (((List Int) × Int × (List (List UInt8)) × Int) ⊕ (((List Int) × Int × (List (List UInt8))) ⊕ ((List (List UInt8)) × Bool))) :=
  if b1615 = true then (some (.inr (.inr ([], false)))) else (chk (l1525.length + [y1601.1].length ≤ 140737488355328 / 16) (ltt (IntKind.u64.wrap (x1529 + 1)) fun x1623 => (some (.inl (y1601.2.f0, y1601.2.f1, l1525 ++ [y1601.1], x1623)))))
noncomputable def r03_ReadTexts_j2 (l1519 : (List Int)) (x1524 : Int) (l1525 : (List (List UInt8))) (x1529 : Int) (b1596 : Bool) : Option (((List Int) × Int × (List (List UInt8)) × Int) ⊕ (((List Int) × Int × (List (List UInt8))) ⊕ ((List (List UInt8)) × Bool))) :=
  if b1596 = true then ((r03_Reader_Text (⟨l1519, x1524⟩ : S26) 32).bind fun y1601 => (if (decide (0 < x1529)) = true then (ltt (IntKind.u64.wrap (x1529 - 1)) fun x1626 => ((at_ l1525 x1626).bind fun x1628 => (r03_ReadTexts_j3 l1525 x1529 y1601 (!Op.bytesLess x1628 y1601.1)))) else (r03_ReadTexts_j3 l1525 x1529 y1601 false))) else (some (.inr (.inl (l1519, x1524, l1525))))
noncomputable def r03_ReadTexts_l3 (y105 : (Int × S26)) (l1519 : (List Int)) (x1524 : Int) (l1525 : (List (List UInt8))) (x1529 : Int) : Option (((List Int) × Int × (List (List UInt8)) × Int) ⊕ (((List Int) × Int × (List (List UInt8))) ⊕ ((List (List UInt8)) × Bool))) :=
  if (decide (x1529 < y105.1)) = true then (r03_ReadTexts_j2 l1519 x1524 l1525 x1529 (decide (0 ≤ x1524))) else (r03_ReadTexts_j2 l1519 x1524 l1525 x1529 false)
noncomputable def r03_ReadTexts (a0 : (List Int)) : Option ((List (List UInt8)) × Bool) :=
  (r03_Reader_Uint (⟨a0, 0⟩ : S26) 4096).bind fun y105 => ((loop (fun s => r03_ReadTexts_l3 y105 s.1 s.2.1 s.2.2.1 s.2.2.2) (y105.2.f0, y105.2.f1, [], 0)).bind fun t => match t with | (.inl t) => r03_ReadTexts_x3_0 a0 t.1 t.2.1 t.2.2 | (.inr t) => some t)

/-! headrace/headracelaw03.texts -/
noncomputable def law03_texts_b1 : Option (Bool) :=
  some true
noncomputable def law03_texts_x1_0 : Option (Bool) :=
  law03_texts_b1
noncomputable def law03_texts_l1 (a0 : (List (List UInt8))) (a1 : (List (List UInt8))) (x286 : Int) : Option ((Int) ⊕ ((Unit) ⊕ (Bool))) :=
  if (decide (x286 < (a0.length : Int))) = true then ((at_ a0 x286).bind fun x311 => ((at_ a1 x286).bind fun x314 => (if (!(x311 == x314)) = true then (some (.inr (.inr false))) else (ltt (IntKind.i64.wrap (x286 + 1)) fun x319 => (some (.inl (x319))))))) else (some (.inr (.inl ())))
noncomputable def law03_texts (a0 : (List (List UInt8))) (a1 : (List (List UInt8))) : Option (Bool) :=
  if ((a0.length : Int) != (a1.length : Int)) = true then (some false) else ((loop (fun s => law03_texts_l1 a0 a1 s) (0)).bind fun t => match t with | (.inl t) => law03_texts_x1_0 | (.inr t) => some t)

/-! headrace/headracelaw03.ColumnReads -/
noncomputable def law03_ColumnReads_j3 (y113 : ((List Int) × Int)) (y119 : ((List Int) × Bool)) (y125 : ((List (List UInt8)) × Int)) (y131 : ((List (List UInt8)) × Bool)) : Option (Bool) :=
  (law03_ints y113.1 y119.1).bind fun y293 => (if y293 = true then ((law03_texts y125.1 y131.1).bind fun y296 => (some y296)) else (some false))
noncomputable def law03_ColumnReads_b1 (y113 : ((List Int) × Int)) (y119 : ((List Int) × Bool)) (y125 : ((List (List UInt8)) × Int)) (y131 : ((List (List UInt8)) × Bool)) : Option (Bool) :=
  law03_ColumnReads_j3 y113 y119 y125 y131
noncomputable def law03_ColumnReads_x1_0 (y113 : ((List Int) × Int)) (y119 : ((List Int) × Bool)) (y125 : ((List (List UInt8)) × Int)) (y131 : ((List (List UInt8)) × Bool)) : Option (Bool) :=
  law03_ColumnReads_b1 y113 y119 y125 y131
noncomputable def law03_ColumnReads_l1 (y137 : ((List Nat) × Int)) (y143 : ((List Nat) × Bool)) (x383 : Int) : Option ((Int) ⊕ ((Unit) ⊕ (Bool))) :=
  if (decide (x383 < (y137.1.length : Int))) = true then ((at_ y137.1 x383).bind fun x410 => ((at_ y143.1 x383).bind fun x413 => ((r01_Same x410 x413).bind fun y416 => (if (!y416) = true then (some (.inr (.inr false))) else (ltt (IntKind.i64.wrap (x383 + 1)) fun x420 => (some (.inl (x420)))))))) else (some (.inr (.inl ())))
noncomputable def law03_ColumnReads_j2 (y113 : ((List Int) × Int)) (y119 : ((List Int) × Bool)) (y125 : ((List (List UInt8)) × Int)) (y131 : ((List (List UInt8)) × Bool)) (y137 : ((List Nat) × Int)) (y143 : ((List Nat) × Bool)) (b163 : Bool) : Option (Bool) :=
  if b163 = true then (some false) else (if y143.2 = true then (if ((y137.1.length : Int) != (y143.1.length : Int)) = true then (some false) else ((loop (fun s => law03_ColumnReads_l1 y137 y143 s) (0)).bind fun t => match t with | (.inl t) => law03_ColumnReads_x1_0 y113 y119 y125 y131 | (.inr t) => some t)) else (law03_ColumnReads_j3 y113 y119 y125 y131))
noncomputable def law03_ColumnReads_j1 (a0 : (List Int)) (b107 : Bool) : Option (Bool) :=
  if b107 = true then ((law03_awake).bind fun y110 => (some y110)) else ((column_ReadInts a0).bind fun y113 => ((r03_ReadInts a0).bind fun y119 => ((column_ReadTexts a0).bind fun y125 => ((r03_ReadTexts a0).bind fun y131 => ((column_ReadReals a0).bind fun y137 => ((r03_ReadReals a0).bind fun y143 => (if (!(y119.2 == (y113.2 == 0))) = true then (law03_ColumnReads_j2 y113 y119 y125 y131 y137 y143 true) else (if (!(y131.2 == (y125.2 == 0))) = true then (law03_ColumnReads_j2 y113 y119 y125 y131 y137 y143 true) else (if (!(y143.2 == (y137.2 == 0))) = true then (law03_ColumnReads_j2 y113 y119 y125 y131 y137 y143 true) else (if (!y119.2) = true then (if (y113.2 != 3) = true then (law03_ColumnReads_j2 y113 y119 y125 y131 y137 y143 true) else (if (!y131.2) = true then (if (y125.2 != 3) = true then (law03_ColumnReads_j2 y113 y119 y125 y131 y137 y143 true) else (if (!y143.2) = true then (law03_ColumnReads_j2 y113 y119 y125 y131 y137 y143 (y137.2 != 3)) else (law03_ColumnReads_j2 y113 y119 y125 y131 y137 y143 false))) else (if (!y143.2) = true then (law03_ColumnReads_j2 y113 y119 y125 y131 y137 y143 (y137.2 != 3)) else (law03_ColumnReads_j2 y113 y119 y125 y131 y137 y143 false)))) else (if (!y131.2) = true then (if (y125.2 != 3) = true then (law03_ColumnReads_j2 y113 y119 y125 y131 y137 y143 true) else (if (!y143.2) = true then (law03_ColumnReads_j2 y113 y119 y125 y131 y137 y143 (y137.2 != 3)) else (law03_ColumnReads_j2 y113 y119 y125 y131 y137 y143 false))) else (if (!y143.2) = true then (law03_ColumnReads_j2 y113 y119 y125 y131 y137 y143 (y137.2 != 3)) else (law03_ColumnReads_j2 y113 y119 y125 y131 y137 y143 false)))))))))))))
noncomputable def law03_ColumnReads (a0 : (List Int)) : Option (Bool) :=
  (law03_awake).bind fun y435 => (if (!y435) = true then (law03_ColumnReads_j1 a0 true) else (law03_ColumnReads_j1 a0 (decide (2000 < (a0.length : Int)))))
end Go.Proofs.Ythokgnonmcgkcaa.M
