/- Plain functions: what the Go functions of this part come to. -/
import Derived.Test.YthokgnonmcgkcaaDe
namespace Go.Proofs.Ythokgnonmcgkcaa.M
open Go Go.RowKit Go.Proofs.Ythokgnonmcgkcaa.E
set_option linter.unusedVariables false
set_option linter.unusedSimpArgs false

/-! math.IsNaN -/
noncomputable def math_IsNaN (a0 : Nat) : Option (Bool) :=
  some (!feq a0 a0)

/-! headrace/real.Canon -/
noncomputable def real_Canon (a0 : Nat) : Option (Nat) :=
  (math_IsNaN a0).bind fun y104 => (if y104 = true then (some ((9221120237041090560 : Int).toNat)) else (some a0))

/-! headrace/real.Bits -/
noncomputable def real_Bits (a0 : Nat) : Option (Int) :=
  (real_Canon a0).bind fun y103 => (some (y103 : Int))

/-! headrace/real.Of -/
noncomputable def real_Of (a0 : Int) : Option (Nat) :=
  (real_Canon a0.toNat).bind fun y103 => (some y103)

/-! headrace/headraceref01.Bits -/
noncomputable def r01_Bits_j1 (a0 : Nat) (b112 : Bool) : Option (Int) :=
  if b112 = true then (some 9221120237041090560) else (some (a0 : Int))
noncomputable def r01_Bits (a0 : Nat) : Option (Int) :=
  ltt (ishr .u64 (a0 : Int) 52) fun x116 => (ltt (x116.tmod 2048) fun x118 => (if (x118 == 2047) = true then (ltt ((a0 : Int).tmod 4503599627370496) fun x121 => (r01_Bits_j1 a0 (x121 != 0))) else (r01_Bits_j1 a0 false)))

/-! headrace/headraceref01.Of -/
noncomputable def r01_Of (a0 : Int) : Option (Nat) :=
  (r01_Bits a0.toNat).bind fun y103 => (some y103.toNat)

/-! headrace/headraceref01.Same -/
noncomputable def r01_Same (a0 : Nat) (a1 : Nat) : Option (Bool) :=
  (r01_Bits a0).bind fun y103 => ((r01_Bits a1).bind fun y105 => (some (y103 == y105)))

/-! headrace/column.Reals -/
noncomputable def column_Reals_b1 (l377 : (List Int)) : Option ((List Int)) :=
  (column_Ints l377).bind fun y382 => (some y382)
noncomputable def column_Reals_x1_0 (l450 : (List Int)) : Option ((List Int)) :=
  column_Reals_b1 l450
noncomputable def column_Reals_l1 (a0 : (List Nat)) (l420 : (List Int)) (x424 : Int) : Option (((List Int) × Int) ⊕ (((List Int)))) :=
  if (decide (x424 < (a0.length : Int))) = true then ((at_ a0 x424).bind fun x461 => ((real_Bits x461).bind fun y464 => (ltt (IntKind.i64.wrap y464) fun x466 => (chk (l420.length + [x466].length ≤ 140737488355328 / 8) (ltt (IntKind.i64.wrap (x424 + 1)) fun x473 => (some (.inl (l420 ++ [x466], x473)))))))) else (some (.inr (l420)))
noncomputable def column_Reals (a0 : (List Nat)) : Option ((List Int)) :=
  (loop (fun s => column_Reals_l1 a0 s.1 s.2) ([], 0)).bind fun t => column_Reals_x1_0 t

/-! headrace/column.ReadReals -/
noncomputable def column_ReadReals_b1 (l450 : (List Nat)) : Option ((List Nat) × Int) :=
  some (l450, 0)
noncomputable def column_ReadReals_x1_0 (l532 : (List Nat)) : Option ((List Nat) × Int) :=
  column_ReadReals_b1 l532
noncomputable def column_ReadReals_l1 (y103 : ((List Int) × Int)) (l495 : (List Nat)) (x499 : Int) : Option (((List Nat) × Int) ⊕ (((List Nat)) ⊕ ((List Nat) × Int))) :=
  if (decide (x499 < (y103.1.length : Int))) = true then ((at_ y103.1 x499).bind fun x543 => (ltt (IntKind.u64.wrap x543) fun x547 => ((real_Of x547).bind fun y549 => ((real_Bits y549).bind fun y553 => (if (y553 != x547) = true then (some (.inr (.inr ([], 3)))) else (chk (l495.length + [y549].length ≤ 140737488355328 / 8) (ltt (IntKind.i64.wrap (x499 + 1)) fun x562 => (some (.inl (l495 ++ [y549], x562)))))))))) else (some (.inr (.inl (l495))))
noncomputable def column_ReadReals (a0 : (List Int)) : Option ((List Nat) × Int) :=
  (column_ReadInts a0).bind fun y103 => (if (y103.2 != 0) = true then (some ([], y103.2)) else ((loop (fun s => column_ReadReals_l1 y103 s.1 s.2) ([], 0)).bind fun t => match t with | (.inl t) => column_ReadReals_x1_0 t | (.inr t) => some t))

/-! headrace/headraceref03.Reals -/
noncomputable def r03_Reals_b1 (l368 : (List Int)) : Option ((List Int)) :=
  (r03_Ints l368).bind fun y373 => (some y373)
noncomputable def r03_Reals_x1_0 (l439 : (List Int)) : Option ((List Int)) :=
  r03_Reals_b1 l439
noncomputable def r03_Reals_l1 (a0 : (List Nat)) (l410 : (List Int)) (x414 : Int) : Option (((List Int) × Int) ⊕ (((List Int)))) :=
  if (decide (x414 < (a0.length : Int))) = true then ((at_ a0 x414).bind fun x449 => ((r01_Bits x449).bind fun y452 => (ltt (IntKind.i64.wrap y452) fun x454 => (chk (l410.length + [x454].length ≤ 140737488355328 / 8) (ltt (IntKind.i64.wrap (x414 + 1)) fun x461 => (some (.inl (l410 ++ [x454], x461)))))))) else (some (.inr (l410)))
noncomputable def r03_Reals (a0 : (List Nat)) : Option ((List Int)) :=
  (loop (fun s => r03_Reals_l1 a0 s.1 s.2) ([], 0)).bind fun t => r03_Reals_x1_0 t

/-! headrace/headraceref03.ReadReals -/
noncomputable def r03_ReadReals_b1 (y103 : ((List Int) × Bool)) (l455 : (List Nat)) : Option ((List Nat) × Bool) :=
  some (l455, y103.2)
noncomputable def r03_ReadReals_x1_0 (y103 : ((List Int) × Bool)) (l539 : (List Nat)) : Option ((List Nat) × Bool) :=
  r03_ReadReals_b1 y103 l539
noncomputable def r03_ReadReals_l1 (y103 : ((List Int) × Bool)) (l501 : (List Nat)) (x505 : Int) : Option (((List Nat) × Int) ⊕ (((List Nat)) ⊕ ((List Nat) × Bool))) :=
  if (decide (x505 < (y103.1.length : Int))) = true then ((at_ y103.1 x505).bind fun x550 => (ltt (IntKind.u64.wrap x550) fun x553 => ((r01_Of x553).bind fun y555 => ((r01_Bits y555).bind fun y560 => (if (y560 != x553) = true then (some (.inr (.inr ([], false)))) else (chk (l501.length + [y555].length ≤ 140737488355328 / 8) (ltt (IntKind.i64.wrap (x505 + 1)) fun x570 => (some (.inl (l501 ++ [y555], x570)))))))))) else (some (.inr (.inl (l501))))
noncomputable def r03_ReadReals (a0 : (List Int)) : Option ((List Nat) × Bool) :=
  (r03_ReadInts a0).bind fun y103 => ((loop (fun s => r03_ReadReals_l1 y103 s.1 s.2) ([], 0)).bind fun t => match t with | (.inl t) => r03_ReadReals_x1_0 y103 t | (.inr t) => some t)

/-! headrace/headracelaw03.ColumnReals -/
noncomputable def law03_ColumnReals_b1 : Option (Bool) :=
  some true
noncomputable def law03_ColumnReals_x1_0 : Option (Bool) :=
  law03_ColumnReals_b1
noncomputable def law03_ColumnReals_l1 (a0 : (List Nat)) (y124 : ((List Nat) × Int)) (x341 : Int) : Option ((Int) ⊕ ((Unit) ⊕ (Bool))) :=
  if (decide (x341 < (a0.length : Int))) = true then ((at_ a0 x341).bind fun x368 => ((at_ y124.1 x341).bind fun x371 => ((r01_Same x368 x371).bind fun y374 => (if (!y374) = true then (some (.inr (.inr false))) else (ltt (IntKind.i64.wrap (x341 + 1)) fun x378 => (some (.inl (x378)))))))) else (some (.inr (.inl ())))
noncomputable def law03_ColumnReals_j2 (a0 : (List Nat)) (y124 : ((List Nat) × Int)) (b138 : Bool) : Option (Bool) :=
  if b138 = true then (some false) else ((loop (fun s => law03_ColumnReals_l1 a0 y124 s) (0)).bind fun t => match t with | (.inl t) => law03_ColumnReals_x1_0 | (.inr t) => some t)
noncomputable def law03_ColumnReals_j1 (a0 : (List Nat)) (b107 : Bool) : Option (Bool) :=
  if b107 = true then ((law03_awake).bind fun y110 => (some y110)) else ((column_Reals a0).bind fun y113 => ((column_ReadReals y113).bind fun y124 => ((r03_Reals a0).bind fun y380 => (if (!((bts y113) == (bts y380))) = true then (law03_ColumnReals_j2 a0 y124 true) else (if (y124.2 != 0) = true then (law03_ColumnReals_j2 a0 y124 true) else (law03_ColumnReals_j2 a0 y124 ((y124.1.length : Int) != (a0.length : Int))))))))
noncomputable def law03_ColumnReals (a0 : (List Nat)) : Option (Bool) :=
  (law03_awake).bind fun y387 => (if (!y387) = true then (law03_ColumnReals_j1 a0 true) else (law03_ColumnReals_j1 a0 (decide (200 < (a0.length : Int)))))
end Go.Proofs.Ythokgnonmcgkcaa.M
