/- Plain functions: what the Go functions of this part come to. -/
import Derived.Test.YthokgnonmcgkcaaDd
namespace Go.Proofs.Ythokgnonmcgkcaa.M
open Go Go.RowKit Go.Proofs.Ythokgnonmcgkcaa.E
set_option linter.unusedVariables false
set_option linter.unusedSimpArgs false

/-! headrace/headracelaw03.ints -/
noncomputable def law03_ints_b1 : Option (Bool) :=
  some true
noncomputable def law03_ints_x1_0 : Option (Bool) :=
  law03_ints_b1
noncomputable def law03_ints_l1 (a0 : (List Int)) (a1 : (List Int)) (x286 : Int) : Option ((Int) ⊕ ((Unit) ⊕ (Bool))) :=
  if (decide (x286 < (a0.length : Int))) = true then ((at_ a0 x286).bind fun x311 => ((at_ a1 x286).bind fun x314 => (if (x311 != x314) = true then (some (.inr (.inr false))) else (ltt (IntKind.i64.wrap (x286 + 1)) fun x319 => (some (.inl (x319))))))) else (some (.inr (.inl ())))
noncomputable def law03_ints (a0 : (List Int)) (a1 : (List Int)) : Option (Bool) :=
  if ((a0.length : Int) != (a1.length : Int)) = true then (some false) else ((loop (fun s => law03_ints_l1 a0 a1 s) (0)).bind fun t => match t with | (.inl t) => law03_ints_x1_0 | (.inr t) => some t)

/-! headrace/headracelaw03.awake -/
noncomputable def law03_awake : Option (Bool) :=
  (column_Ints [7, 7, 7]).bind fun y104 => (if ((bts y104) == [2, 3, 14, 2]) = true then (some true) else (some false))

/-! headrace/headracelaw03.ColumnInts -/
noncomputable def law03_ColumnInts_b1 (a0 : (List Int)) (y113 : ((List Int))) : Option (Bool) :=
  (column_ReadInts y113).bind fun y648 => (if (y648.2 == 0) = true then ((law03_ints y648.1 a0).bind fun y655 => (some y655)) else (some false))
noncomputable def law03_ColumnInts_x1_0 (a0 : (List Int)) (y113 : ((List Int))) : Option (Bool) :=
  law03_ColumnInts_b1 a0 y113
noncomputable def law03_ColumnInts_j2 (x715 : Int) (b808 : Bool) : Option ((Int) ⊕ ((Unit) ⊕ (Bool))) :=
  if b808 = true then (some (.inr (.inr false))) else (ltt (IntKind.u8.wrap (x715 + 1)) fun x811 => (some (.inl (x811))))
noncomputable def law03_ColumnInts_l1 (a0 : (List Int)) (y113 : ((List Int))) (x715 : Int) : Option ((Int) ⊕ ((Unit) ⊕ (Bool))) :=
  if (decide (x715 < 4)) = true then ((column_As x715 a0).bind fun y781 => ((column_ReadInts y781).bind fun y792 => ((r03_As x715 a0).bind fun y813 => (if (!((bts y781) == (bts y813))) = true then (law03_ColumnInts_j2 x715 true) else (if (y792.2 != 0) = true then (law03_ColumnInts_j2 x715 true) else ((law03_ints y792.1 a0).bind fun y820 => (if (!y820) = true then (law03_ColumnInts_j2 x715 true) else (law03_ColumnInts_j2 x715 (decide ((y781.length : Int) < (y113.length : Int))))))))))) else (some (.inr (.inl ())))
noncomputable def law03_ColumnInts_j1 (a0 : (List Int)) (b107 : Bool) : Option (Bool) :=
  if b107 = true then ((law03_awake).bind fun y110 => (some y110)) else ((column_Ints a0).bind fun y113 => ((r03_Ints a0).bind fun y120 => (if (!((bts y113) == (bts y120))) = true then (some false) else ((loop (fun s => law03_ColumnInts_l1 a0 y113 s) (0)).bind fun t => match t with | (.inl t) => law03_ColumnInts_x1_0 a0 y113 | (.inr t) => some t))))
noncomputable def law03_ColumnInts (a0 : (List Int)) : Option (Bool) :=
  (law03_awake).bind fun y823 => (if (!y823) = true then (law03_ColumnInts_j1 a0 true) else (law03_ColumnInts_j1 a0 (decide (300 < (a0.length : Int)))))

/-! headrace/headracelaw03.ColumnPacked -/
noncomputable def law03_ColumnPacked_b1 (a1 : (List Int)) (l397 : (List Int)) : Option (Bool) :=
  (column_As 3 l397).bind fun y402 => ((column_ReadInts y402).bind fun y413 => (if (y413.2 == 0) = true then ((law03_ints y413.1 l397).bind fun y420 => (if y420 = true then (ltt (IntKind.i64.wrap (3 * (a1.length : Int))) fun x423 => (ltt (IntKind.i64.wrap (x423 + 7)) fun x425 => (ltt (IntKind.i64.wrap (x425.tdiv 8)) fun x427 => (ltt (IntKind.i64.wrap (15 + x427)) fun x429 => (some (decide ((y402.length : Int) ≤ x429))))))) else (some false))) else (some false)))
noncomputable def law03_ColumnPacked_x1_0 (a1 : (List Int)) (l496 : (List Int)) : Option (Bool) :=
  law03_ColumnPacked_b1 a1 l496
noncomputable def law03_ColumnPacked_l1 (a0 : Int) (a1 : (List Int)) (l465 : (List Int)) (x469 : Int) : Option (((List Int) × Int) ⊕ (((List Int)))) :=
  if (decide (x469 < (a1.length : Int))) = true then (ltt (IntKind.i64.wrap (a0.tdiv 2)) fun x506 => ((at_ a1 x469).bind fun x508 => (ltt (IntKind.i64.wrap (x508.tmod 8)) fun x511 => (ltt (IntKind.i64.wrap (x506 + x511)) fun x513 => (chk (l465.length + [x513].length ≤ 140737488355328 / 8) (ltt (IntKind.i64.wrap (x469 + 1)) fun x520 => (some (.inl (l465 ++ [x513], x520))))))))) else (some (.inr (l465)))
noncomputable def law03_ColumnPacked_j1 (a0 : Int) (a1 : (List Int)) (b108 : Bool) : Option (Bool) :=
  if b108 = true then ((law03_awake).bind fun y111 => (some y111)) else ((loop (fun s => law03_ColumnPacked_l1 a0 a1 s.1 s.2) ([], 0)).bind fun t => law03_ColumnPacked_x1_0 a1 t)
noncomputable def law03_ColumnPacked (a0 : Int) (a1 : (List Int)) : Option (Bool) :=
  (law03_awake).bind fun y522 => (if (!y522) = true then (law03_ColumnPacked_j1 a0 a1 true) else (if (decide (200 < (a1.length : Int))) = true then (law03_ColumnPacked_j1 a0 a1 true) else (law03_ColumnPacked_j1 a0 a1 ((a1.length : Int) == 0))))

/-! headrace/headracelaw03.ColumnFar -/
noncomputable def law03_ColumnFar_b2 : Option (Bool) :=
  some true
noncomputable def law03_ColumnFar_x1_2 : Option (Bool) :=
  law03_ColumnFar_b2
noncomputable def law03_ColumnFar_j2 (x1311 : Int) (b1377 : Bool) : Option ((Int) ⊕ ((Unit) ⊕ (Bool))) :=
  if b1377 = true then (some (.inr (.inr false))) else (ltt (IntKind.u8.wrap (x1311 + 1)) fun x1380 => (some (.inl (x1380))))
noncomputable def law03_ColumnFar_l1 (l909 : (List Int)) (x1311 : Int) : Option ((Int) ⊕ ((Unit) ⊕ (Bool))) :=
  if (decide (x1311 < 4)) = true then ((column_As x1311 l909).bind fun y1359 => ((column_ReadInts y1359).bind fun y1368 => (if (y1368.2 != 0) = true then (law03_ColumnFar_j2 x1311 true) else ((law03_ints y1368.1 l909).bind fun y1383 => (law03_ColumnFar_j2 x1311 (!y1383)))))) else (some (.inr (.inl ())))
noncomputable def law03_ColumnFar_b1 (l909 : (List Int)) : Option (Bool) :=
  (loop (fun s => law03_ColumnFar_l1 l909 s) (0)).bind fun t => match t with | (.inl t) => law03_ColumnFar_x1_2 | (.inr t) => some t
noncomputable def law03_ColumnFar_x2_0 (l1564 : (List Int)) : Option (Bool) :=
  law03_ColumnFar_b1 l1564
noncomputable def law03_ColumnFar_b3 (x1480 : Int) (l1625 : (List Int)) : Option (((List Int) × Int) ⊕ (((List Int)))) :=
  ltt (IntKind.i64.wrap (x1480 + 1)) fun x1629 => (some (.inl (l1625, x1629)))
noncomputable def law03_ColumnFar_l2 (a0 : (List Bool)) (a1 : Int) (l1476 : (List Int)) (x1480 : Int) : Option (((List Int) × Int) ⊕ (((List Int)))) :=
  if (decide (x1480 < (a0.length : Int))) = true then ((at_ a0 x1480).bind fun x1632 => (if x1632 = true then (chk (l1476.length + [-9223372036854775808, a1].length ≤ 140737488355328 / 8) (law03_ColumnFar_b3 x1480 (l1476 ++ [-9223372036854775808, a1]))) else (chk (l1476.length + [9223372036854775807].length ≤ 140737488355328 / 8) (law03_ColumnFar_b3 x1480 (l1476 ++ [9223372036854775807]))))) else (some (.inr (l1476)))
noncomputable def law03_ColumnFar_j1 (a0 : (List Bool)) (a1 : Int) (b107 : Bool) : Option (Bool) :=
  if b107 = true then ((law03_awake).bind fun y110 => (some y110)) else ((loop (fun s => law03_ColumnFar_l2 a0 a1 s.1 s.2) ([], 0)).bind fun t => law03_ColumnFar_x2_0 t)
noncomputable def law03_ColumnFar (a0 : (List Bool)) (a1 : Int) : Option (Bool) :=
  (law03_awake).bind fun y1646 => (if (!y1646) = true then (law03_ColumnFar_j1 a0 a1 true) else (law03_ColumnFar_j1 a0 a1 (decide (50 < (a0.length : Int)))))
end Go.Proofs.Ythokgnonmcgkcaa.M
