/- Plain functions: what the Go functions of this part come to. -/
import Derived.Test.YthokgnonmcgkcaaDa
namespace Go.Proofs.Ythokgnonmcgkcaa.M
open Go Go.RowKit Go.Proofs.Ythokgnonmcgkcaa.E
set_option linter.unusedVariables false
set_option linter.unusedSimpArgs false

/-! headrace/column.Uint -/
noncomputable def column_Uint_b1 (l318 : (List Int)) (x322 : Int) : Option ((List Int)) :=
  ltt (IntKind.u8.wrap x322) fun x324 => (chk (l318.length + [x324].length ≤ 140737488355328 / 1) (some (l318 ++ [x324])))
noncomputable def column_Uint_x1_0 (l378 : (List Int)) (x382 : Int) : Option ((List Int)) :=
  column_Uint_b1 l378 x382
noncomputable def column_Uint_l1 (l352 : (List Int)) (x356 : Int) : Option (((List Int) × Int) ⊕ (((List Int) × Int))) :=
  if (decide (128 ≤ x356)) = true then (ltt (IntKind.u8.wrap x356) fun x389 => (ltt (ior .u8 x389 128) fun x391 => (chk (l352.length + [x391].length ≤ 140737488355328 / 1) (ltt (ishr .u64 x356 7) fun x398 => (some (.inl (l352 ++ [x391], x398))))))) else (some (.inr (l352, x356)))
noncomputable def column_Uint (a0 : (List Int)) (a1 : Int) : Option ((List Int)) :=
  (loop (fun s => column_Uint_l1 s.1 s.2) (a0, a1)).bind fun t => column_Uint_x1_0 t.1 t.2

/-! headrace/column.Int -/
noncomputable def column_Int (a0 : (List Int)) (a1 : Int) : Option ((List Int)) :=
  ltt (ishl .i64 a1 1) fun x103 => (ltt (IntKind.u64.wrap x103) fun x105 => (ltt (ishr .i64 a1 63) fun x107 => (ltt (IntKind.u64.wrap x107) fun x109 => (ltt (ixor .u64 x105 x109) fun x111 => ((column_Uint a0 x111).bind fun y113 => (some y113))))))

/-! headrace/column.Text -/
noncomputable def column_Text (a0 : (List Int)) (a1 : (List UInt8)) : Option ((List Int)) :=
  ltt (IntKind.u64.wrap (a1.length : Int)) fun x103 => ((column_Uint a0 x103).bind fun y105 => (chk (y105.length + a1.length ≤ 140737488355328 / 1) (some (y105 ++ stb a1))))

/-! slices.Min[[]int64,int64] -/
noncomputable def slices_Min_int64_int64_b1 (x232 : Int) : Option (Int) :=
  some x232
noncomputable def slices_Min_int64_int64_x1_0 (x260 : Int) : Option (Int) :=
  slices_Min_int64_int64_b1 x260
noncomputable def slices_Min_int64_int64_l1 (a0 : (List Int)) (x246 : Int) (x247 : Int) : Option ((Int × Int) ⊕ ((Int))) :=
  if (decide (x247 < (a0.length : Int))) = true then ((at_ a0 x247).bind fun x267 => (ltt (IntKind.i64.wrap (x247 + 1)) fun x270 => (some (.inl (if x267 < x246 then x267 else x246, x270))))) else (some (.inr (x246)))
noncomputable def slices_Min_int64_int64 (a0 : (List Int)) : Option (Int) :=
  if (decide ((a0.length : Int) < 1)) = true then (none) else ((at_ a0 0).bind fun x108 => ((loop (fun s => slices_Min_int64_int64_l1 a0 s.1 s.2) (x108, 1)).bind fun t => slices_Min_int64_int64_x1_0 t))

/-! math/bits.Len64 -/
noncomputable def bits_Len64_j3 (x128 : Int) (x129 : Int) : Option (Int) :=
  ltt (IntKind.u8.wrap x128) fun x131 => ((at_ ([0, 1, 2, 2, 3, 3, 3, 3, 4, 4, 4, 4, 4, 4, 4, 4, 5, 5, 5, 5, 5, 5, 5, 5, 5, 5, 5, 5, 5, 5, 5, 5, 6, 6, 6, 6, 6, 6, 6, 6, 6, 6, 6, 6, 6, 6, 6, 6, 6, 6, 6, 6, 6, 6, 6, 6, 6, 6, 6, 6, 6, 6, 6, 6, 7, 7, 7, 7, 7, 7, 7, 7, 7, 7, 7, 7, 7, 7, 7, 7, 7, 7, 7, 7, 7, 7, 7, 7, 7, 7, 7, 7, 7, 7, 7, 7, 7, 7, 7, 7, 7, 7, 7, 7, 7, 7, 7, 7, 7, 7, 7, 7, 7, 7, 7, 7, 7, 7, 7, 7, 7, 7, 7, 7, 7, 7, 7, 7, 8, 8, 8, 8, 8, 8, 8, 8, 8, 8, 8, 8, 8, 8, 8, 8, 8, 8, 8, 8, 8, 8, 8, 8, 8, 8, 8, 8, 8, 8, 8, 8, 8, 8, 8, 8, 8, 8, 8, 8, 8, 8, 8, 8, 8, 8, 8, 8, 8, 8, 8, 8, 8, 8, 8, 8, 8, 8, 8, 8, 8, 8, 8, 8, 8, 8, 8, 8, 8, 8, 8, 8, 8, 8, 8, 8, 8, 8, 8, 8, 8, 8, 8, 8, 8, 8, 8, 8, 8, 8, 8, 8, 8, 8, 8, 8, 8, 8, 8, 8, 8, 8, 8, 8, 8, 8, 8, 8, 8, 8, 8, 8, 8, 8, 8, 8, 8, 8, 8, 8, 8, 8, 8, 8, 8, 8, 8, 8] : List UInt8) x131).bind fun x133 => (ltt (IntKind.i64.wrap (x133.toNat : Int)) fun x135 => (ltt (IntKind.i64.wrap (x129 + x135)) fun x137 => (some x137))))
noncomputable def bits_Len64_j2 (x118 : Int) (x119 : Int) : Option (Int) :=
  if (decide (256 ≤ x118)) = true then (ltt (ishr .u64 x118 8) fun x142 => (ltt (IntKind.i64.wrap (x119 + 8)) fun x144 => (bits_Len64_j3 x142 x144))) else (bits_Len64_j3 x118 x119)
noncomputable def bits_Len64_j1 (x108 : Int) (x109 : Int) : Option (Int) :=
  if (decide (65536 ≤ x108)) = true then (ltt (ishr .u64 x108 16) fun x149 => (ltt (IntKind.i64.wrap (x109 + 16)) fun x151 => (bits_Len64_j2 x149 x151))) else (bits_Len64_j2 x108 x109)
noncomputable def bits_Len64 (a0 : Int) : Option (Int) :=
  if (decide (4294967296 ≤ a0)) = true then (ltt (ishr .u64 a0 32) fun x156 => (bits_Len64_j1 x156 32)) else (bits_Len64_j1 a0 0)

/-! headrace/column.pack -/
noncomputable def column_pack_b2 (y296 : ((List Int))) (x301 : Int) (l8646 : (List Int)) : Option ((List Int)) :=
  chk ((y296 ++ [x301]).length + l8646.length ≤ 140737488355328 / 1) (some ((y296 ++ [x301]) ++ l8646))
noncomputable def column_pack_x1_2 (y296 : ((List Int))) (x301 : Int) (l10485 : (List Int)) : Option ((List Int)) :=
  column_pack_b2 y296 x301 l10485
noncomputable def column_pack_b3 (x9533 : Int) (x11317 : Int) (l11318 : (List Int)) : Option ((Int × (List Int) × Int) ⊕ (((List Int)))) :=
  ltt (IntKind.i64.wrap (x9533 + 1)) fun x11319 => (some (.inl (x11317, l11318, x11319)))
noncomputable def column_pack_x2_4 (x9533 : Int) (x11397 : Int) (l11398 : (List Int)) : Option ((Int × (List Int) × Int) ⊕ (((List Int)))) :=
  column_pack_b3 x9533 x11397 l11398
noncomputable def column_pack_l2 (y107 : (Int)) (x294 : Int) (x11199 : Int) (x11357 : Int) (l11358 : (List Int)) (x11359 : Int) : Option ((Int × (List Int) × Int) ⊕ ((Int × (List Int)))) :=
  if (decide (x11359 < x294)) = true then (ltt (IntKind.i64.wrap (x11357.tdiv 8)) fun x11407 => ((at_ l11358 x11407).bind fun x11409 => (ltt (IntKind.i64.wrap (x11199 - y107)) fun x11412 => (ltt (IntKind.u64.wrap x11412) fun x11414 => (chk (0 ≤ x11359) (ltt (ishr .u64 x11414 x11359) fun x11417 => (ltt (iand .u64 x11417 1) fun x11419 => (ltt (IntKind.u8.wrap x11419) fun x11421 => (ltt (x11357.tmod 8) fun x11423 => (chk (0 ≤ x11423) (ltt (ishl .u8 x11421 x11423) fun x11426 => (ltt (ior .u8 x11409 x11426) fun x11428 => (ltt (IntKind.i64.wrap (x11357 + 1)) fun x11430 => (ltt (IntKind.i64.wrap (x11359 + 1)) fun x11432 => (some (.inl (x11430, l11358.set x11407.toNat x11428, x11432))))))))))))))))) else (some (.inr (x11357, l11358)))
noncomputable def column_pack_l1 (a1 : (List Int)) (y107 : (Int)) (x294 : Int) (x9531 : Int) (l9532 : (List Int)) (x9533 : Int) : Option ((Int × (List Int) × Int) ⊕ (((List Int)))) :=
  if (decide (x9533 < (a1.length : Int))) = true then ((at_ a1 x9533).bind fun x11199 => ((loop (fun s => column_pack_l2 y107 x294 x11199 s.1 s.2.1 s.2.2) (x9531, l9532, 0)).bind fun t => column_pack_x2_4 x9533 t.1 t.2)) else (some (.inr (l9532)))
noncomputable def column_pack_b1 (a0 : (List Int)) (a1 : (List Int)) (y107 : (Int)) (x294 : Int) : Option ((List Int)) :=
  (column_Int a0 y107).bind fun y296 => (ltt (IntKind.u8.wrap x294) fun x301 => (chk (y296.length + [x301].length ≤ 140737488355328 / 1) (ltt (IntKind.i64.wrap ((a1.length : Int) * x294)) fun x310 => (ltt (IntKind.i64.wrap (x310 + 7)) fun x312 => (ltt (IntKind.i64.wrap (x312.tdiv 8)) fun x314 => (chk (0 ≤ x314 ∧ (1 : Int) * x314 ≤ 140737488355328) ((loop (fun s => column_pack_l1 a1 y107 x294 s.1 s.2.1 s.2.2) (0, List.replicate x314.toNat 0, 0)).bind fun t => column_pack_x1_2 y296 x301 t)))))))
noncomputable def column_pack_x3_0 (a0 : (List Int)) (a1 : (List Int)) (y107 : (Int)) (x11474 : Int) : Option ((List Int)) :=
  column_pack_b1 a0 a1 y107 x11474
noncomputable def column_pack_l3 (a1 : (List Int)) (y107 : (Int)) (x11453 : Int) (x11454 : Int) : Option ((Int × Int) ⊕ ((Int))) :=
  if (decide (x11454 < (a1.length : Int))) = true then ((at_ a1 x11454).bind fun x11482 => (ltt (IntKind.i64.wrap (x11482 - y107)) fun x11485 => (ltt (IntKind.u64.wrap x11485) fun x11487 => ((bits_Len64 x11487).bind fun y11489 => (ltt (IntKind.i64.wrap (x11454 + 1)) fun x11491 => (some (.inl (if x11453 < y11489 then y11489 else x11453, x11491)))))))) else (some (.inr (x11453)))
noncomputable def column_pack (a0 : (List Int)) (a1 : (List Int)) : Option ((List Int)) :=
  if ((a1.length : Int) == 0) = true then (some a0) else ((slices_Min_int64_int64 a1).bind fun y107 => ((loop (fun s => column_pack_l3 a1 y107 s.1 s.2) (0, 0)).bind fun t => column_pack_x3_0 a0 a1 y107 t))

/-! headrace/column.As -/
noncomputable def column_As_b1 (l7786 : (List Int)) : Option ((List Int)) :=
  some l7786
noncomputable def column_As_b2 (l7863 : (List Int)) : Option ((List Int)) :=
  column_As_b1 l7863
noncomputable def column_As_x1_1 (l7914 : (List Int)) : Option ((List Int)) :=
  column_As_b2 l7914
noncomputable def column_As_l1 (a1 : (List Int)) (l7888 : (List Int)) (x7892 : Int) : Option (((List Int) × Int) ⊕ (((List Int)))) :=
  if (decide (x7892 < (a1.length : Int))) = true then ((at_ a1 x7892).bind fun x7925 => ((column_Int l7888 x7925).bind fun y7928 => (ltt (IntKind.i64.wrap (x7892 + 1)) fun x7933 => (some (.inl (y7928, x7933)))))) else (some (.inr (l7888)))
noncomputable def column_As_b3 (l8020 : (List Int)) : Option ((List Int)) :=
  column_As_b1 l8020
noncomputable def column_As_x2_3 (l8080 : (List Int)) : Option ((List Int)) :=
  column_As_b3 l8080
noncomputable def column_As_l2 (a1 : (List Int)) (l8049 : (List Int)) (x8053 : Int) (x8054 : Int) : Option (((List Int) × Int × Int) ⊕ (((List Int)))) :=
  if (decide (x8054 < (a1.length : Int))) = true then ((at_ a1 x8054).bind fun x8091 => (ltt (IntKind.i64.wrap (x8091 - x8053)) fun x8095 => ((column_Int l8049 x8095).bind fun y8097 => (ltt (IntKind.i64.wrap (x8054 + 1)) fun x8102 => (some (.inl (y8097, x8091, x8102))))))) else (some (.inr (l8049)))
noncomputable def column_As_b4 (l9220 : (List Int)) : Option ((List Int)) :=
  column_As_b1 l9220
noncomputable def column_As_x3_5 (l9967 : (List Int)) : Option ((List Int)) :=
  column_As_b4 l9967
noncomputable def column_As_b5 (a1 : (List Int)) (l9593 : (List Int)) (x9597 : Int) (x10231 : Int) : Option (((List Int) × Int) ⊕ (((List Int)))) :=
  (at_ a1 x9597).bind fun x10233 => ((column_Int l9593 x10233).bind fun y10236 => (ltt (IntKind.i64.wrap (x10231 - 1)) fun x10241 => (ltt (IntKind.u64.wrap x10241) fun x10243 => ((column_Uint y10236 x10243).bind fun y10245 => (ltt (IntKind.i64.wrap (x9597 + x10231)) fun x10250 => (some (.inl (y10245, x10250))))))))
noncomputable def column_As_x4_7 (a1 : (List Int)) (l9593 : (List Int)) (x9597 : Int) (x10307 : Int) : Option (((List Int) × Int) ⊕ (((List Int)))) :=
  column_As_b5 a1 l9593 x9597 x10307
noncomputable def column_As_j1 (x10279 : Int) (b10320 : Bool) : Option ((Int) ⊕ ((Int))) :=
  if b10320 = true then (ltt (IntKind.i64.wrap (x10279 + 1)) fun x10323 => (some (.inl (x10323)))) else (some (.inr (x10279)))
noncomputable def column_As_l4 (a1 : (List Int)) (x9597 : Int) (x10279 : Int) : Option ((Int) ⊕ ((Int))) :=
  ltt (IntKind.i64.wrap (x9597 + x10279)) fun x10325 => (if (decide (x10325 < (a1.length : Int))) = true then ((at_ a1 x10325).bind fun x10328 => ((at_ a1 x9597).bind fun x10331 => (column_As_j1 x10279 (x10328 == x10331)))) else (column_As_j1 x10279 false))
noncomputable def column_As_l3 (a1 : (List Int)) (l9593 : (List Int)) (x9597 : Int) : Option (((List Int) × Int) ⊕ (((List Int)))) :=
  if (decide (x9597 < (a1.length : Int))) = true then ((loop (fun s => column_As_l4 a1 x9597 s) (1)).bind fun t => column_As_x4_7 a1 l9593 x9597 t) else (some (.inr (l9593)))
noncomputable def column_As (a0 : Int) (a1 : (List Int)) : Option ((List Int)) :=
  ltt (IntKind.u64.wrap (a1.length : Int)) fun x104 => ((column_Uint [a0] x104).bind fun y106 => (if (a0 == 0) = true then ((loop (fun s => column_As_l1 a1 s.1 s.2) (y106, 0)).bind fun t => column_As_x1_1 t) else (if (a0 == 1) = true then ((loop (fun s => column_As_l2 a1 s.1 s.2.1 s.2.2) (y106, 0, 0)).bind fun t => column_As_x2_3 t) else (if (a0 == 2) = true then ((loop (fun s => column_As_l3 a1 s.1 s.2) (y106, 0)).bind fun t => column_As_x3_5 t) else (if (a0 == 3) = true then ((column_pack y106 a1).bind fun y10336 => (column_As_b1 y10336)) else (column_As_b1 y106))))))

/-! headrace/column.Ints -/
noncomputable def column_Ints_b1 (l628 : (List Int)) : Option ((List Int)) :=
  some l628
noncomputable def column_Ints_x1_0 (l748 : (List Int)) : Option ((List Int)) :=
  column_Ints_b1 l748
noncomputable def column_Ints_b2 (x692 : Int) (l788 : (List Int)) : Option (((List Int) × Int) ⊕ (((List Int)))) :=
  ltt (IntKind.u8.wrap (x692 + 1)) fun x792 => (some (.inl (l788, x792)))
noncomputable def column_Ints_l1 (a0 : (List Int)) (l688 : (List Int)) (x692 : Int) : Option (((List Int) × Int) ⊕ (((List Int)))) :=
  if (decide (x692 ≤ 3)) = true then ((column_As x692 a0).bind fun y795 => (if (decide ((y795.length : Int) < (l688.length : Int))) = true then (column_Ints_b2 x692 y795) else (column_Ints_b2 x692 l688))) else (some (.inr (l688)))
noncomputable def column_Ints (a0 : (List Int)) : Option ((List Int)) :=
  (column_As 0 a0).bind fun y103 => ((loop (fun s => column_Ints_l1 a0 s.1 s.2) (y103, 1)).bind fun t => column_Ints_x1_0 t)
end Go.Proofs.Ythokgnonmcgkcaa.M
