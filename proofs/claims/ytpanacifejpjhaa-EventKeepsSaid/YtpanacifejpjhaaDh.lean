/- Plain functions: what the Go functions of this part come to. -/
import Derived.Test.YtpanacifejpjhaaDb
namespace Go.Proofs.Ytpanacifejpjhaa.M
open Go Go.RowKit Go.Proofs.Ytpanacifejpjhaa.E
set_option linter.unusedVariables false
set_option linter.unusedSimpArgs false

/-! headrace/event.Sort$1 -/
noncomputable def event_Sort_1 (a0 : S30) (a1 : S30) : Option (Int) :=
  (event_Less a0 a1).bind fun y107 => (if y107 = true then (some (-1)) else ((event_Less a1 a0).bind fun y112 => (if y112 = true then (some 1) else (some 0))))

/-! slices.Clone[[]headrace/api.Event,headrace/api.Event] -/
noncomputable def slices_Clone_api_Event_api_Event (a0 : (List S30)) : Option ((List S30)) :=
  nilsplit (a0).isEmpty (some []) (chk (([] : List S30).length + a0.length ≤ 140737488355328 / 48) (some a0))

/-! slices.swapRangeCmpFunc[headrace/api.Event] -/
noncomputable def slices_swapRangeCmpFunc_api_Event_b1 (l150 : (List S30)) : Option ((List S30)) :=
  some l150
noncomputable def slices_swapRangeCmpFunc_api_Event_x1_0 (l183 : (List S30)) : Option ((List S30)) :=
  slices_swapRangeCmpFunc_api_Event_b1 l183
noncomputable def slices_swapRangeCmpFunc_api_Event_l1 (a1 : Int) (a2 : Int) (a3 : Int) (l166 : (List S30)) (x167 : Int) : Option (((List S30) × Int) ⊕ (((List S30)))) :=
  if (decide (x167 < a3)) = true then ((at_ l166 (IntKind.i64.wrap (a2 + x167))).bind fun x190 => ((at_ l166 (IntKind.i64.wrap (a1 + x167))).bind fun x193 => ((at_ (l166.set (IntKind.i64.wrap (a1 + x167)).toNat x190) (IntKind.i64.wrap (a2 + x167))).bind fun x196 => (some (.inl ((l166.set (IntKind.i64.wrap (a1 + x167)).toNat x190).set (IntKind.i64.wrap (a2 + x167)).toNat x193, IntKind.i64.wrap (x167 + 1))))))) else (some (.inr (l166)))
noncomputable def slices_swapRangeCmpFunc_api_Event (a0 : (List S30)) (a1 : Int) (a2 : Int) (a3 : Int) : Option ((List S30)) :=
  (loop (fun s => slices_swapRangeCmpFunc_api_Event_l1 a1 a2 a3 s.1 s.2) (a0, 0)).bind fun t => slices_swapRangeCmpFunc_api_Event_x1_0 t

/-! slices.rotateCmpFunc[headrace/api.Event] -/
noncomputable def slices_rotateCmpFunc_api_Event_b1 (a2 : Int) (l361 : (List S30)) (x362 : Int) : Option ((List S30)) :=
  (slices_swapRangeCmpFunc_api_Event l361 (IntKind.i64.wrap (a2 - x362)) a2 x362).bind fun y363 => (some y363)
noncomputable def slices_rotateCmpFunc_api_Event_x1_0 (a2 : Int) (l422 : (List S30)) (x423 : Int) : Option ((List S30)) :=
  slices_rotateCmpFunc_api_Event_b1 a2 l422 x423
noncomputable def slices_rotateCmpFunc_api_Event_b2 (l437 : (List S30)) (x438 : Int) (x439 : Int) : Option (((List S30) × Int × Int) ⊕ (((List S30) × Int))) :=
  some (.inl (l437, x438, x439))
noncomputable def slices_rotateCmpFunc_api_Event_l1 (a2 : Int) (l392 : (List S30)) (x393 : Int) (x394 : Int) : Option (((List S30) × Int × Int) ⊕ (((List S30) × Int))) :=
  if (x393 != x394) = true then (if (decide (x394 < x393)) = true then ((slices_swapRangeCmpFunc_api_Event l392 (IntKind.i64.wrap (a2 - x393)) a2 x394).bind fun y443 => (slices_rotateCmpFunc_api_Event_b2 y443 (IntKind.i64.wrap (x393 - x394)) x394)) else ((slices_swapRangeCmpFunc_api_Event l392 (IntKind.i64.wrap (a2 - x393)) (IntKind.i64.wrap ((IntKind.i64.wrap (a2 + x394)) - x393)) x393).bind fun y446 => (slices_rotateCmpFunc_api_Event_b2 y446 x393 (IntKind.i64.wrap (x394 - x393))))) else (some (.inr (l392, x393)))
noncomputable def slices_rotateCmpFunc_api_Event (a0 : (List S30)) (a1 : Int) (a2 : Int) (a3 : Int) : Option ((List S30)) :=
  (loop (fun s => slices_rotateCmpFunc_api_Event_l1 a2 s.1 s.2.1 s.2.2) (a0, IntKind.i64.wrap (a2 - a1), IntKind.i64.wrap (a3 - a2))).bind fun t => slices_rotateCmpFunc_api_Event_x1_0 a2 t.1 t.2

/-! slices.symMergeCmpFunc[headrace/api.Event] -/
noncomputable def slices_symMergeCmpFunc_api_Event_b2 (l447 : (List S30)) : Option ((List S30)) :=
  some l447
noncomputable def slices_symMergeCmpFunc_api_Event_x1_2 (l480 : (List S30)) : Option ((List S30)) :=
  slices_symMergeCmpFunc_api_Event_b2 l480
noncomputable def slices_symMergeCmpFunc_api_Event_l1 (x396 : Int) (l463 : (List S30)) (x464 : Int) : Option (((List S30) × Int) ⊕ (((List S30)))) :=
  if (decide (x464 < IntKind.i64.wrap (x396 - 1))) = true then ((at_ l463 (IntKind.i64.wrap (x464 + 1))).bind fun x487 => ((at_ l463 x464).bind fun x490 => ((at_ (l463.set x464.toNat x487) (IntKind.i64.wrap (x464 + 1))).bind fun x493 => (some (.inl ((l463.set x464.toNat x487).set (IntKind.i64.wrap (x464 + 1)).toNat x490, IntKind.i64.wrap (x464 + 1))))))) else (some (.inr (l463)))
noncomputable def slices_symMergeCmpFunc_api_Event_b1 (a0 : (List S30)) (a1 : Int) (x396 : Int) : Option ((List S30)) :=
  (loop (fun s => slices_symMergeCmpFunc_api_Event_l1 x396 s.1 s.2) (a0, a1)).bind fun t => slices_symMergeCmpFunc_api_Event_x1_2 t
noncomputable def slices_symMergeCmpFunc_api_Event_x2_0 (a0 : (List S30)) (a1 : Int) (x559 : Int) : Option ((List S30)) :=
  slices_symMergeCmpFunc_api_Event_b1 a0 a1 x559
noncomputable def slices_symMergeCmpFunc_api_Event_b3 (x576 : Int) (x577 : Int) : Option ((Int × Int) ⊕ ((Int))) :=
  some (.inl (x576, x577))
noncomputable def slices_symMergeCmpFunc_api_Event_l2 (a0 : (List S30)) (a1 : Int) (x526 : Int) (x527 : Int) : Option ((Int × Int) ⊕ ((Int))) :=
  if (decide (x526 < x527)) = true then ((at_ a0 (IntKind.i64.wrap (ishr .u64 (IntKind.u64.wrap (IntKind.i64.wrap (x526 + x527))) 1))).bind fun x580 => ((at_ a0 a1).bind fun x583 => ((event_Sort_1 x580 x583).bind fun y586 => (if (decide (y586 < 0)) = true then (slices_symMergeCmpFunc_api_Event_b3 (IntKind.i64.wrap ((IntKind.i64.wrap (ishr .u64 (IntKind.u64.wrap (IntKind.i64.wrap (x526 + x527))) 1)) + 1)) x527) else (slices_symMergeCmpFunc_api_Event_b3 x526 (IntKind.i64.wrap (ishr .u64 (IntKind.u64.wrap (IntKind.i64.wrap (x526 + x527))) 1))))))) else (some (.inr (x526)))
noncomputable def slices_symMergeCmpFunc_api_Event_b5 (l935 : (List S30)) : Option ((List S30)) :=
  some l935
noncomputable def slices_symMergeCmpFunc_api_Event_x3_6 (l968 : (List S30)) : Option ((List S30)) :=
  slices_symMergeCmpFunc_api_Event_b5 l968
noncomputable def slices_symMergeCmpFunc_api_Event_l3 (x884 : Int) (l951 : (List S30)) (x952 : Int) : Option (((List S30) × Int) ⊕ (((List S30)))) :=
  if (decide (x884 < x952)) = true then ((at_ l951 (IntKind.i64.wrap (x952 - 1))).bind fun x975 => ((at_ l951 x952).bind fun x978 => ((at_ (l951.set x952.toNat x975) (IntKind.i64.wrap (x952 - 1))).bind fun x981 => (some (.inl ((l951.set x952.toNat x975).set (IntKind.i64.wrap (x952 - 1)).toNat x978, IntKind.i64.wrap (x952 - 1))))))) else (some (.inr (l951)))
noncomputable def slices_symMergeCmpFunc_api_Event_b4 (a0 : (List S30)) (a2 : Int) (x884 : Int) : Option ((List S30)) :=
  (loop (fun s => slices_symMergeCmpFunc_api_Event_l3 x884 s.1 s.2) (a0, a2)).bind fun t => slices_symMergeCmpFunc_api_Event_x3_6 t
noncomputable def slices_symMergeCmpFunc_api_Event_x4_4 (a0 : (List S30)) (a2 : Int) (x1047 : Int) : Option ((List S30)) :=
  slices_symMergeCmpFunc_api_Event_b4 a0 a2 x1047
noncomputable def slices_symMergeCmpFunc_api_Event_b6 (x1064 : Int) (x1065 : Int) : Option ((Int × Int) ⊕ ((Int))) :=
  some (.inl (x1064, x1065))
noncomputable def slices_symMergeCmpFunc_api_Event_l4 (a0 : (List S30)) (a2 : Int) (x1014 : Int) (x1015 : Int) : Option ((Int × Int) ⊕ ((Int))) :=
  if (decide (x1014 < x1015)) = true then ((at_ a0 a2).bind fun x1068 => ((at_ a0 (IntKind.i64.wrap (ishr .u64 (IntKind.u64.wrap (IntKind.i64.wrap (x1014 + x1015))) 1))).bind fun x1071 => ((event_Sort_1 x1068 x1071).bind fun y1074 => (if (!(decide (y1074 < 0))) = true then (slices_symMergeCmpFunc_api_Event_b6 (IntKind.i64.wrap ((IntKind.i64.wrap (ishr .u64 (IntKind.u64.wrap (IntKind.i64.wrap (x1014 + x1015))) 1)) + 1)) x1015) else (slices_symMergeCmpFunc_api_Event_b6 x1014 (IntKind.i64.wrap (ishr .u64 (IntKind.u64.wrap (IntKind.i64.wrap (x1014 + x1015))) 1))))))) else (some (.inr (x1014)))
noncomputable def slices_symMergeCmpFunc_api_Event_j4 (rec_ : ((List S30) → Int → Int → Int → Option ((List S30)))) (a1 : Int) (a2 : Int) (a3 : Int) (x1378 : Int) (l1399 : (List S30)) (b1402 : Bool) : Option ((List S30)) :=
  if b1402 = true then ((rec_ l1399 (IntKind.i64.wrap (ishr .u64 (IntKind.u64.wrap (IntKind.i64.wrap (a1 + a3))) 1)) (IntKind.i64.wrap ((IntKind.i64.wrap ((IntKind.i64.wrap (ishr .u64 (IntKind.u64.wrap (IntKind.i64.wrap (a1 + a3))) 1)) + a2)) - x1378)) a3).bind fun y1404 => (some y1404)) else (some l1399)
noncomputable def slices_symMergeCmpFunc_api_Event_j3 (rec_ : ((List S30) → Int → Int → Int → Option ((List S30)))) (a1 : Int) (a2 : Int) (a3 : Int) (x1378 : Int) (l1399 : (List S30)) : Option ((List S30)) :=
  if (decide (IntKind.i64.wrap (ishr .u64 (IntKind.u64.wrap (IntKind.i64.wrap (a1 + a3))) 1) < IntKind.i64.wrap ((IntKind.i64.wrap ((IntKind.i64.wrap (ishr .u64 (IntKind.u64.wrap (IntKind.i64.wrap (a1 + a3))) 1)) + a2)) - x1378))) = true then (slices_symMergeCmpFunc_api_Event_j4 rec_ a1 a2 a3 x1378 l1399 (decide (IntKind.i64.wrap ((IntKind.i64.wrap ((IntKind.i64.wrap (ishr .u64 (IntKind.u64.wrap (IntKind.i64.wrap (a1 + a3))) 1)) + a2)) - x1378) < a3))) else (slices_symMergeCmpFunc_api_Event_j4 rec_ a1 a2 a3 x1378 l1399 false)
noncomputable def slices_symMergeCmpFunc_api_Event_j5 (rec_ : ((List S30) → Int → Int → Int → Option ((List S30)))) (a1 : Int) (a2 : Int) (a3 : Int) (x1378 : Int) (l1389 : (List S30)) (b1409 : Bool) : Option ((List S30)) :=
  if b1409 = true then ((rec_ l1389 a1 x1378 (IntKind.i64.wrap (ishr .u64 (IntKind.u64.wrap (IntKind.i64.wrap (a1 + a3))) 1))).bind fun y1411 => (slices_symMergeCmpFunc_api_Event_j3 rec_ a1 a2 a3 x1378 y1411)) else (slices_symMergeCmpFunc_api_Event_j3 rec_ a1 a2 a3 x1378 l1389)
noncomputable def slices_symMergeCmpFunc_api_Event_j2 (rec_ : ((List S30) → Int → Int → Int → Option ((List S30)))) (a1 : Int) (a2 : Int) (a3 : Int) (x1378 : Int) (l1389 : (List S30)) : Option ((List S30)) :=
  if (decide (a1 < x1378)) = true then (slices_symMergeCmpFunc_api_Event_j5 rec_ a1 a2 a3 x1378 l1389 (decide (x1378 < IntKind.i64.wrap (ishr .u64 (IntKind.u64.wrap (IntKind.i64.wrap (a1 + a3))) 1)))) else (slices_symMergeCmpFunc_api_Event_j5 rec_ a1 a2 a3 x1378 l1389 false)
noncomputable def slices_symMergeCmpFunc_api_Event_j6 (rec_ : ((List S30) → Int → Int → Int → Option ((List S30)))) (a0 : (List S30)) (a1 : Int) (a2 : Int) (a3 : Int) (x1378 : Int) (b1416 : Bool) : Option ((List S30)) :=
  if b1416 = true then ((slices_rotateCmpFunc_api_Event a0 x1378 a2 (IntKind.i64.wrap ((IntKind.i64.wrap ((IntKind.i64.wrap (ishr .u64 (IntKind.u64.wrap (IntKind.i64.wrap (a1 + a3))) 1)) + a2)) - x1378))).bind fun y1418 => (slices_symMergeCmpFunc_api_Event_j2 rec_ a1 a2 a3 x1378 y1418)) else (slices_symMergeCmpFunc_api_Event_j2 rec_ a1 a2 a3 x1378 a0)
noncomputable def slices_symMergeCmpFunc_api_Event_b7 (rec_ : ((List S30) → Int → Int → Int → Option ((List S30)))) (a0 : (List S30)) (a1 : Int) (a2 : Int) (a3 : Int) (x1378 : Int) : Option ((List S30)) :=
  if (decide (x1378 < a2)) = true then (slices_symMergeCmpFunc_api_Event_j6 rec_ a0 a1 a2 a3 x1378 (decide (a2 < IntKind.i64.wrap ((IntKind.i64.wrap ((IntKind.i64.wrap (ishr .u64 (IntKind.u64.wrap (IntKind.i64.wrap (a1 + a3))) 1)) + a2)) - x1378)))) else (slices_symMergeCmpFunc_api_Event_j6 rec_ a0 a1 a2 a3 x1378 false)
noncomputable def slices_symMergeCmpFunc_api_Event_x5_8 (rec_ : ((List S30) → Int → Int → Int → Option ((List S30)))) (a0 : (List S30)) (a1 : Int) (a2 : Int) (a3 : Int) (x1485 : Int) : Option ((List S30)) :=
  slices_symMergeCmpFunc_api_Event_b7 rec_ a0 a1 a2 a3 x1485
noncomputable def slices_symMergeCmpFunc_api_Event_b8 (x1502 : Int) (x1503 : Int) : Option ((Int × Int) ⊕ ((Int))) :=
  some (.inl (x1502, x1503))
noncomputable def slices_symMergeCmpFunc_api_Event_l5 (a0 : (List S30)) (a1 : Int) (a2 : Int) (a3 : Int) (x1452 : Int) (x1453 : Int) : Option ((Int × Int) ⊕ ((Int))) :=
  if (decide (x1452 < x1453)) = true then ((at_ a0 (IntKind.i64.wrap ((IntKind.i64.wrap ((IntKind.i64.wrap ((IntKind.i64.wrap (ishr .u64 (IntKind.u64.wrap (IntKind.i64.wrap (a1 + a3))) 1)) + a2)) - 1)) - (IntKind.i64.wrap (ishr .u64 (IntKind.u64.wrap (IntKind.i64.wrap (x1452 + x1453))) 1))))).bind fun x1506 => ((at_ a0 (IntKind.i64.wrap (ishr .u64 (IntKind.u64.wrap (IntKind.i64.wrap (x1452 + x1453))) 1))).bind fun x1509 => ((event_Sort_1 x1506 x1509).bind fun y1512 => (if (!(decide (y1512 < 0))) = true then (slices_symMergeCmpFunc_api_Event_b8 (IntKind.i64.wrap ((IntKind.i64.wrap (ishr .u64 (IntKind.u64.wrap (IntKind.i64.wrap (x1452 + x1453))) 1)) + 1)) x1453) else (slices_symMergeCmpFunc_api_Event_b8 x1452 (IntKind.i64.wrap (ishr .u64 (IntKind.u64.wrap (IntKind.i64.wrap (x1452 + x1453))) 1))))))) else (some (.inr (x1452)))
noncomputable def slices_symMergeCmpFunc_api_Event_j1 (rec_ : ((List S30) → Int → Int → Int → Option ((List S30)))) (a0 : (List S30)) (a1 : Int) (a2 : Int) (a3 : Int) (x1085 : Int) (x1086 : Int) : Option ((List S30)) :=
  (loop (fun s => slices_symMergeCmpFunc_api_Event_l5 a0 a1 a2 a3 s.1 s.2) (x1085, x1086)).bind fun t => slices_symMergeCmpFunc_api_Event_x5_8 rec_ a0 a1 a2 a3 t
noncomputable def slices_symMergeCmpFunc_api_Event_s (rec_ : (List S30) → Int → Int → Int → Option ((List S30))) (a0 : (List S30)) (a1 : Int) (a2 : Int) (a3 : Int) : Option ((List S30)) :=
  if ((IntKind.i64.wrap (a2 - a1)) == 1) = true then ((loop (fun s => slices_symMergeCmpFunc_api_Event_l2 a0 a1 s.1 s.2) (a2, a3)).bind fun t => slices_symMergeCmpFunc_api_Event_x2_0 a0 a1 t) else (if ((IntKind.i64.wrap (a3 - a2)) == 1) = true then ((loop (fun s => slices_symMergeCmpFunc_api_Event_l4 a0 a2 s.1 s.2) (a1, a2)).bind fun t => slices_symMergeCmpFunc_api_Event_x4_4 a0 a2 t) else (if (decide (IntKind.i64.wrap (ishr .u64 (IntKind.u64.wrap (IntKind.i64.wrap (a1 + a3))) 1) < a2)) = true then (slices_symMergeCmpFunc_api_Event_j1 rec_ a0 a1 a2 a3 (IntKind.i64.wrap ((IntKind.i64.wrap ((IntKind.i64.wrap (ishr .u64 (IntKind.u64.wrap (IntKind.i64.wrap (a1 + a3))) 1)) + a2)) - a3)) (IntKind.i64.wrap (ishr .u64 (IntKind.u64.wrap (IntKind.i64.wrap (a1 + a3))) 1))) else (slices_symMergeCmpFunc_api_Event_j1 rec_ a0 a1 a2 a3 a1 a2)))
noncomputable def slices_symMergeCmpFunc_api_Event_k : Nat → (List S30) → Int → Int → Int → Option ((List S30))
  | 0 => fun _ _ _ _ => none
  | k + 1 => slices_symMergeCmpFunc_api_Event_s (slices_symMergeCmpFunc_api_Event_k k)
noncomputable def slices_symMergeCmpFunc_api_Event : (List S30) → Int → Int → Int → Option ((List S30)) := slices_symMergeCmpFunc_api_Event_k 64

/-! slices.insertionSortCmpFunc[headrace/api.Event] -/
noncomputable def slices_insertionSortCmpFunc_api_Event_b1 (l2745 : (List S30)) : Option ((List S30)) :=
  some l2745
noncomputable def slices_insertionSortCmpFunc_api_Event_x1_0 (l4508 : (List S30)) : Option ((List S30)) :=
  slices_insertionSortCmpFunc_api_Event_b1 l4508
noncomputable def slices_insertionSortCmpFunc_api_Event_b2 (x3627 : Int) (l5279 : (List S30)) : Option (((List S30) × Int) ⊕ (((List S30)))) :=
  some (.inl (l5279, IntKind.i64.wrap (x3627 + 1)))
noncomputable def slices_insertionSortCmpFunc_api_Event_x2_2 (x3627 : Int) (l5352 : (List S30)) : Option (((List S30) × Int) ⊕ (((List S30)))) :=
  slices_insertionSortCmpFunc_api_Event_b2 x3627 l5352
noncomputable def slices_insertionSortCmpFunc_api_Event_j1 (l5315 : (List S30)) (x5316 : Int) (b5365 : Bool) : Option (((List S30) × Int) ⊕ (((List S30)))) :=
  if b5365 = true then ((at_ l5315 (IntKind.i64.wrap (x5316 - 1))).bind fun x5369 => ((at_ l5315 x5316).bind fun x5372 => ((at_ (l5315.set x5316.toNat x5369) (IntKind.i64.wrap (x5316 - 1))).bind fun x5375 => (some (.inl ((l5315.set x5316.toNat x5369).set (IntKind.i64.wrap (x5316 - 1)).toNat x5372, IntKind.i64.wrap (x5316 - 1))))))) else (some (.inr (l5315)))
noncomputable def slices_insertionSortCmpFunc_api_Event_l2 (a1 : Int) (l5315 : (List S30)) (x5316 : Int) : Option (((List S30) × Int) ⊕ (((List S30)))) :=
  if (decide (a1 < x5316)) = true then ((at_ l5315 x5316).bind fun x5378 => ((at_ l5315 (IntKind.i64.wrap (x5316 - 1))).bind fun x5381 => ((event_Sort_1 x5378 x5381).bind fun y5384 => (slices_insertionSortCmpFunc_api_Event_j1 l5315 x5316 (decide (y5384 < 0)))))) else (slices_insertionSortCmpFunc_api_Event_j1 l5315 x5316 false)
noncomputable def slices_insertionSortCmpFunc_api_Event_l1 (a1 : Int) (a2 : Int) (l3626 : (List S30)) (x3627 : Int) : Option (((List S30) × Int) ⊕ (((List S30)))) :=
  if (decide (x3627 < a2)) = true then ((loop (fun s => slices_insertionSortCmpFunc_api_Event_l2 a1 s.1 s.2) (l3626, x3627)).bind fun t => slices_insertionSortCmpFunc_api_Event_x2_2 x3627 t) else (some (.inr (l3626)))
noncomputable def slices_insertionSortCmpFunc_api_Event (a0 : (List S30)) (a1 : Int) (a2 : Int) : Option ((List S30)) :=
  (loop (fun s => slices_insertionSortCmpFunc_api_Event_l1 a1 a2 s.1 s.2) (a0, IntKind.i64.wrap (a1 + 1))).bind fun t => slices_insertionSortCmpFunc_api_Event_x1_0 t

/-! slices.stableCmpFunc[headrace/api.Event] -/
noncomputable def slices_stableCmpFunc_api_Event_b2 (l744 : (List S30)) : Option ((List S30)) :=
  some l744
noncomputable def slices_stableCmpFunc_api_Event_x1_2 (l1093 : (List S30)) : Option ((List S30)) :=
  slices_stableCmpFunc_api_Event_b2 l1093
noncomputable def slices_stableCmpFunc_api_Event_j1 (x919 : Int) (l1222 : (List S30)) : Option (((List S30) × Int) ⊕ (((List S30)))) :=
  some (.inl (l1222, IntKind.i64.wrap (x919 * 2)))
noncomputable def slices_stableCmpFunc_api_Event_b3 (a1 : Int) (x919 : Int) (l1214 : (List S30)) (x1215 : Int) : Option (((List S30) × Int) ⊕ (((List S30)))) :=
  if (decide (IntKind.i64.wrap (x1215 + x919) < a1)) = true then ((slices_symMergeCmpFunc_api_Event l1214 x1215 (IntKind.i64.wrap (x1215 + x919)) a1).bind fun y1226 => (slices_stableCmpFunc_api_Event_j1 x919 y1226)) else (slices_stableCmpFunc_api_Event_j1 x919 l1214)
noncomputable def slices_stableCmpFunc_api_Event_x2_4 (a1 : Int) (x919 : Int) (l1253 : (List S30)) (x1254 : Int) : Option (((List S30) × Int) ⊕ (((List S30)))) :=
  slices_stableCmpFunc_api_Event_b3 a1 x919 l1253 x1254
noncomputable def slices_stableCmpFunc_api_Event_l2 (a1 : Int) (x919 : Int) (l1239 : (List S30)) (x1240 : Int) (x1241 : Int) : Option (((List S30) × Int × Int) ⊕ (((List S30) × Int))) :=
  if (decide (x1241 ≤ a1)) = true then ((slices_symMergeCmpFunc_api_Event l1239 x1240 (IntKind.i64.wrap (x1240 + x919)) x1241).bind fun y1261 => (some (.inl (y1261, x1241, IntKind.i64.wrap (x1241 + (IntKind.i64.wrap (2 * x919))))))) else (some (.inr (l1239, x1240)))
noncomputable def slices_stableCmpFunc_api_Event_l1 (a1 : Int) (l918 : (List S30)) (x919 : Int) : Option (((List S30) × Int) ⊕ (((List S30)))) :=
  if (decide (x919 < a1)) = true then ((loop (fun s => slices_stableCmpFunc_api_Event_l2 a1 x919 s.1 s.2.1 s.2.2) (l918, 0, IntKind.i64.wrap (2 * x919))).bind fun t => slices_stableCmpFunc_api_Event_x2_4 a1 x919 t.1 t.2) else (some (.inr (l918)))
noncomputable def slices_stableCmpFunc_api_Event_b1 (a1 : Int) (l217 : (List S30)) (x218 : Int) : Option ((List S30)) :=
  (slices_insertionSortCmpFunc_api_Event l217 x218 a1).bind fun y220 => ((loop (fun s => slices_stableCmpFunc_api_Event_l1 a1 s.1 s.2) (y220, 20)).bind fun t => slices_stableCmpFunc_api_Event_x1_2 t)
noncomputable def slices_stableCmpFunc_api_Event_x3_0 (a1 : Int) (l1289 : (List S30)) (x1290 : Int) : Option ((List S30)) :=
  slices_stableCmpFunc_api_Event_b1 a1 l1289 x1290
noncomputable def slices_stableCmpFunc_api_Event_l3 (a1 : Int) (l1275 : (List S30)) (x1276 : Int) (x1277 : Int) : Option (((List S30) × Int × Int) ⊕ (((List S30) × Int))) :=
  if (decide (x1277 ≤ a1)) = true then ((slices_insertionSortCmpFunc_api_Event l1275 x1276 x1277).bind fun y1297 => (some (.inl (y1297, x1277, IntKind.i64.wrap (x1277 + 20))))) else (some (.inr (l1275, x1276)))
noncomputable def slices_stableCmpFunc_api_Event (a0 : (List S30)) (a1 : Int) : Option ((List S30)) :=
  (loop (fun s => slices_stableCmpFunc_api_Event_l3 a1 s.1 s.2.1 s.2.2) (a0, 0, 20)).bind fun t => slices_stableCmpFunc_api_Event_x3_0 a1 t.1 t.2

/-! slices.SortStableFunc[[]headrace/api.Event,headrace/api.Event] -/
noncomputable def slices_SortStableFunc_api_Event_api_Event (a0 : (List S30)) : Option ((List S30)) :=
  (slices_stableCmpFunc_api_Event a0 (a0.length : Int)).bind fun y101 => (some y101)

/-! headrace/event.Sort -/
noncomputable def event_Sort (a0 : (List S30)) : Option ((List S30)) :=
  (slices_Clone_api_Event_api_Event a0).bind fun y103 => ((slices_SortStableFunc_api_Event_api_Event y103).bind fun y109 => (some y109))

/-! headrace/headracelaw06.awake -/
noncomputable def law06_awake : Option (Bool) :=
  (event_Sort [(⟨0, 0, 1, [98], 0⟩ : S30), (⟨0, 0, 2, [97], 0⟩ : S30), (⟨0, 0, 1, [97], 0⟩ : S30)]).bind fun y104 => (if ((y104.length : Int) == 3) = true then ((at_ y104 0).bind fun x111 => (if (x111.f3 == [97]) = true then (if (x111.f2 == 1) = true then ((at_ y104 2).bind fun x117 => (if (x117.f3 == [98]) = true then (some true) else (some false))) else (some false)) else (some false))) else (some false))

/-! headrace/headracelaw06.EventForms -/
noncomputable def law06_EventForms (a0 : S30) (a1 : S30) (a2 : Int) : Option (Bool) :=
  (law06_awake).bind fun y105 => (if y105 = true then ((event_Form a0 a2).bind fun y108 => ((r06_Form a0 a2).bind fun y110 => (if (y108 == y110) = true then ((event_Less a0 a1).bind fun y113 => ((r06_Before a0 a1).bind fun y115 => (if (y113 == y115) = true then ((event_Less a1 a0).bind fun y118 => ((r06_Before a1 a0).bind fun y120 => (if (y118 == y120) = true then ((event_Same a0 a1).bind fun y123 => ((r06_Same a0 a1).bind fun y125 => (if (y123 == y125) = true then ((event_Same a0 a0).bind fun y128 => (some y128)) else (some false)))) else (some false)))) else (some false)))) else (some false)))) else (some false))
end Go.Proofs.Ytpanacifejpjhaa.M
