/- Plain functions: what the Go functions of this part come to. -/
import Derived.Test.YtpanacifejpjhaaDb
namespace Go.Proofs.Ytpanacifejpjhaa.M
open Go Go.RowKit Go.Proofs.Ytpanacifejpjhaa.E
set_option linter.unusedVariables false
set_option linter.unusedSimpArgs false

/-! (*headrace/merge.Tree).ahead -/
noncomputable def merge_Tree_ahead_j1 (a0 : S48) (a1 : Int) (a2 : Int) (x109 : (List S30)) (x116 : (List S30)) (b127 : Bool) : Option (Bool × S48) :=
  if b127 = true then (if (decide (0 < (x109.length : Int))) = true then (some (true, a0)) else (if ((x116.length : Int) == 0) = true then (some (decide (a1 < a2), a0)) else (some (false, a0)))) else ((at_ x109 0).bind fun x133 => ((at_ x116 0).bind fun x136 => ((event_Less x133 x136).bind fun y139 => (if y139 = true then (some (true, a0)) else ((event_Less x136 x133).bind fun y146 => (if y146 = true then (some (false, a0)) else (some (decide (a1 < a2), a0))))))))
noncomputable def merge_Tree_ahead (a0 : S48) (a1 : Int) (a2 : Int) : Option (Bool × S48) :=
  (at_ a0.f0 a1).bind fun x109 => ((at_ a0.f0 a2).bind fun x116 => (if ((x109.length : Int) == 0) = true then (merge_Tree_ahead_j1 a0 a1 a2 x109 x116 true) else (merge_Tree_ahead_j1 a0 a1 a2 x109 x116 ((x116.length : Int) == 0))))

/-! headrace/merge.New -/
noncomputable def merge_New_b3 (a0 : (List (List S30))) (l2959 : (List (List S30))) (l2963 : (List Int)) (l2967 : (List Int)) : Option ((Option S48) × Int) :=
  (at_ l2967 (if IntKind.i64.wrap ((IntKind.i64.wrap (2 * (a0.length : Int))) - 1) < 1 then IntKind.i64.wrap ((IntKind.i64.wrap (2 * (a0.length : Int))) - 1) else 1)).bind fun x2969 => ((at_ l2963 0).bind fun x2972 => (some (some (⟨l2959, l2963.set (0 : Int).toNat x2969⟩ : S48), 0)))
noncomputable def merge_New_x1_6 (a0 : (List (List S30))) (l3101 : (List (List S30))) (l3105 : (List Int)) (l3109 : (List Int)) : Option ((Option S48) × Int) :=
  merge_New_b3 a0 l3101 l3105 l3109
noncomputable def merge_New_j2 (l3041 : (List Int)) (x3042 : Int) (l3134 : (List (List S30))) (l3138 : (List Int)) (x3142 : Int) (x3143 : Int) : Option (((List (List S30)) × (List Int) × (List Int) × Int) ⊕ (((List (List S30)) × (List Int) × (List Int)))) :=
  (at_ l3041 x3042).bind fun x3144 => ((at_ l3138 x3042).bind fun x3146 => (some (.inl (l3134, l3138.set x3042.toNat x3143, l3041.set x3042.toNat x3142, IntKind.i64.wrap (x3042 - 1)))))
noncomputable def merge_New_l1 (l3033 : (List (List S30))) (l3037 : (List Int)) (l3041 : (List Int)) (x3042 : Int) : Option (((List (List S30)) × (List Int) × (List Int) × Int) ⊕ (((List (List S30)) × (List Int) × (List Int)))) :=
  if (decide (0 < x3042)) = true then ((at_ l3041 (IntKind.i64.wrap (2 * x3042))).bind fun x3117 => ((at_ l3041 (IntKind.i64.wrap ((IntKind.i64.wrap (2 * x3042)) + 1))).bind fun x3120 => ((merge_Tree_ahead (⟨l3033, l3037⟩ : S48) x3120 x3117).bind fun y3149 => (if y3149.1 = true then (merge_New_j2 l3041 x3042 y3149.2.f0 y3149.2.f1 x3120 x3117) else (merge_New_j2 l3041 x3042 y3149.2.f0 y3149.2.f1 x3117 x3120))))) else (some (.inr (l3033, l3037, l3041)))
noncomputable def merge_New_b2 (a0 : (List (List S30))) (l2277 : (List (List S30))) (l2391 : (List Int)) : Option ((Option S48) × Int) :=
  (loop (fun s => merge_New_l1 s.1 s.2.1 s.2.2.1 s.2.2.2) (l2277, List.replicate (a0.length : Int).toNat 0, l2391, IntKind.i64.wrap ((a0.length : Int) - 1))).bind fun t => merge_New_x1_6 a0 t.1 t.2.1 t.2.2
noncomputable def merge_New_x2_4 (a0 : (List (List S30))) (l2277 : (List (List S30))) (l3180 : (List Int)) : Option ((Option S48) × Int) :=
  merge_New_b2 a0 l2277 l3180
noncomputable def merge_New_l2 (a0 : (List (List S30))) (l3168 : (List Int)) (x3169 : Int) : Option (((List Int) × Int) ⊕ (((List Int)))) :=
  if (decide (x3169 < (a0.length : Int))) = true then ((at_ l3168 (IntKind.i64.wrap ((a0.length : Int) + x3169))).bind fun x3188 => (some (.inl (l3168.set (IntKind.i64.wrap ((a0.length : Int) + x3169)).toNat x3169, IntKind.i64.wrap (x3169 + 1))))) else (some (.inr (l3168)))
noncomputable def merge_New_b1 (a0 : (List (List S30))) (l2277 : (List (List S30))) : Option ((Option S48) × Int) :=
  chk (0 ≤ (a0.length : Int) ∧ (8 : Int) * (a0.length : Int) ≤ 140737488355328) (chk (0 ≤ (IntKind.i64.wrap (2 * (a0.length : Int))) ∧ (8 : Int) * (IntKind.i64.wrap (2 * (a0.length : Int))) ≤ 140737488355328) ((loop (fun s => merge_New_l2 a0 s.1 s.2) (List.replicate (IntKind.i64.wrap (2 * (a0.length : Int))).toNat 0, 0)).bind fun t => merge_New_x2_4 a0 l2277 t))
noncomputable def merge_New_x3_0 (a0 : (List (List S30))) (l3671 : (List (List S30))) : Option ((Option S48) × Int) :=
  merge_New_b1 a0 l3671
noncomputable def merge_New_b4 (l3428 : (List (List S30))) (x3432 : Int) (x3682 : (List S30)) : Option (((List (List S30)) × Int) ⊕ (((List (List S30))) ⊕ ((Option S48) × Int))) :=
  chk (l3428.length + [x3682].length ≤ 140737488355328 / 24) (some (.inl (l3428 ++ [x3682], IntKind.i64.wrap (x3432 + 1))))
noncomputable def merge_New_x4_2 (l3428 : (List (List S30))) (x3432 : Int) (x3682 : (List S30)) : Option (((List (List S30)) × Int) ⊕ (((List (List S30))) ⊕ ((Option S48) × Int))) :=
  merge_New_b4 l3428 x3432 x3682
noncomputable def merge_New_l4 (x3682 : (List S30)) (x3873 : Int) : Option ((Int) ⊕ ((Unit) ⊕ ((Option S48) × Int))) :=
  if (decide (x3873 < (x3682.length : Int))) = true then ((at_ x3682 x3873).bind fun x3898 => ((at_ x3682 (IntKind.i64.wrap (x3873 - 1))).bind fun x3901 => ((event_Less x3898 x3901).bind fun y3904 => (if y3904 = true then (some (.inr (.inr (none, 7)))) else (some (.inl (IntKind.i64.wrap (x3873 + 1)))))))) else (some (.inr (.inl ())))
noncomputable def merge_New_l3 (a0 : (List (List S30))) (l3428 : (List (List S30))) (x3432 : Int) : Option (((List (List S30)) × Int) ⊕ (((List (List S30))) ⊕ ((Option S48) × Int))) :=
  if (decide (x3432 < (a0.length : Int))) = true then ((at_ a0 x3432).bind fun x3682 => ((loop (fun s => merge_New_l4 x3682 s) (1)).bind fun t => match t with | (.inl t) => merge_New_x4_2 l3428 x3432 x3682 | (.inr t) => some (.inr (.inr t)))) else (some (.inr (.inl (l3428))))
noncomputable def merge_New_j1 (a0 : (List (List S30))) (b105 : Bool) : Option ((Option S48) × Int) :=
  if b105 = true then (some (none, 1)) else ((loop (fun s => merge_New_l3 a0 s.1 s.2) ([], 0)).bind fun t => match t with | (.inl t) => merge_New_x3_0 a0 t | (.inr t) => some t)
noncomputable def merge_New (a0 : (List (List S30))) : Option ((Option S48) × Int) :=
  if (decide ((a0.length : Int) < 1)) = true then (merge_New_j1 a0 true) else (merge_New_j1 a0 (decide (16 < (a0.length : Int))))

/-! (*headrace/merge.Tree).Next -/
noncomputable def merge_Tree_Next_b1 (x128 : Int) (x148 : S30) (l1107 : (List (List S30))) (l1111 : (List Int)) (x1115 : Int) : Option (S30 × Int × Bool × (Option S48)) :=
  (at_ l1111 0).bind fun x1117 => (some (x148, x128, true, some (⟨l1107, l1111.set (0 : Int).toNat x1115⟩ : S48)))
noncomputable def merge_Tree_Next_x1_0 (x128 : Int) (x148 : S30) (l1330 : (List (List S30))) (l1334 : (List Int)) (x1338 : Int) : Option (S30 × Int × Bool × (Option S48)) :=
  merge_Tree_Next_b1 x128 x148 l1330 l1334 x1338
noncomputable def merge_Tree_Next_b2 (x1229 : Int) (l1404 : (List (List S30))) (l1408 : (List Int)) (x1412 : Int) : Option (((List (List S30)) × (List Int) × Int × Int) ⊕ (((List (List S30)) × (List Int) × Int))) :=
  some (.inl (l1404, l1408, x1412, IntKind.i64.wrap (x1229.tdiv 2)))
noncomputable def merge_Tree_Next_l1 (l1220 : (List (List S30))) (l1224 : (List Int)) (x1228 : Int) (x1229 : Int) : Option (((List (List S30)) × (List Int) × Int × Int) ⊕ (((List (List S30)) × (List Int) × Int))) :=
  if (decide (0 < x1229)) = true then ((at_ l1224 x1229).bind fun x1414 => ((merge_Tree_ahead (⟨l1220, l1224⟩ : S48) x1414 x1228).bind fun y1417 => (if y1417.1 = true then ((at_ y1417.2.f1 x1229).bind fun x1426 => (merge_Tree_Next_b2 x1229 y1417.2.f0 (y1417.2.f1.set x1229.toNat x1228) x1426)) else (merge_Tree_Next_b2 x1229 y1417.2.f0 y1417.2.f1 x1228)))) else (some (.inr (l1220, l1224, x1228)))
noncomputable def merge_Tree_Next (a0 : (Option S48)) : Option (S30 × Int × Bool × (Option S48)) :=
  match a0 with | none => (some ((⟨0, 0, 0, [], 0⟩ : S30), 0, false, none)) | some x101 => ((at_ x101.f1 0).bind fun x128 => ((at_ x101.f0 x128).bind fun x131 => (if ((x131.length : Int) == 0) = true then (some ((⟨0, 0, 0, [], 0⟩ : S30), 0, false, some x101)) else ((at_ x131 0).bind fun x148 => ((cut_ x131 1 (x131.length : Int)).bind fun l158 => ((loop (fun s => merge_Tree_Next_l1 s.1 s.2.1 s.2.2.1 s.2.2.2) (x101.f0.set x128.toNat l158, x101.f1, x128, IntKind.i64.wrap ((IntKind.i64.wrap (x128 + ((x101.f0.set x128.toNat l158).length : Int))).tdiv 2))).bind fun t => merge_Tree_Next_x1_0 x128 x148 t.1 t.2.1 t.2.2))))))

/-! headrace/merge.All -/
noncomputable def merge_All_b1 (l409 : (List S30)) : Option ((List S30) × Int) :=
  some (l409, 0)
noncomputable def merge_All_x1_0 (l488 : (List S30)) : Option ((List S30) × Int) :=
  merge_All_b1 l488
noncomputable def merge_All_l1 (o449 : (Option S48)) (l450 : (List S30)) (x455 : Int) (x456 : Int) (x457 : Int) (s458 : (List UInt8)) (x459 : Nat) (b460 : Bool) : Option (((Option S48) × (List S30) × Int × Int × Int × (List UInt8) × Nat × Bool) ⊕ (((List S30)))) :=
  if b460 = true then (chk (l450.length + [(⟨x455, x456, x457, s458, x459⟩ : S30)].length ≤ 140737488355328 / 48) ((merge_Tree_Next o449).bind fun y506 => (some (.inl (y506.2.2.2, l450 ++ [(⟨x455, x456, x457, s458, x459⟩ : S30)], y506.1.f0, y506.1.f1, y506.1.f2, y506.1.f3, y506.1.f4, y506.2.2.1))))) else (some (.inr (l450)))
noncomputable def merge_All (a0 : (List (List S30))) : Option ((List S30) × Int) :=
  (merge_New a0).bind fun y103 => (if (y103.2 != 0) = true then (some ([], y103.2)) else ((merge_Tree_Next y103.1).bind fun y311 => ((loop (fun s => merge_All_l1 s.1 s.2.1 s.2.2.1 s.2.2.2.1 s.2.2.2.2.1 s.2.2.2.2.2.1 s.2.2.2.2.2.2.1 s.2.2.2.2.2.2.2) (y311.2.2.2, [], y311.1.f0, y311.1.f1, y311.1.f2, y311.1.f3, y311.1.f4, y311.2.2.1)).bind fun t => merge_All_x1_0 t)))

/-! headrace/headracelaw09.awake -/
noncomputable def law09_awake : Option (Bool) :=
  (merge_All [[(⟨0, 0, 0, [97], 0⟩ : S30), (⟨0, 0, 0, [99], 0⟩ : S30)], [(⟨0, 0, 0, [98], 0⟩ : S30)]]).bind fun y115 => (if (y115.2 == 0) = true then (if ((y115.1.length : Int) == 3) = true then ((at_ y115.1 1).bind fun x123 => (if (x123.f3 == [98]) = true then (some true) else (some false))) else (some false)) else (some false))

/-! headrace/headracelaw09.MergeOrder -/
noncomputable def law09_MergeOrder_b1 (a0 : (List (List S30))) (b20830 : Bool) : Option (Bool) :=
  (merge_New a0).bind fun y20832 => ((merge_All a0).bind fun y20836 => (if (b20830 == (y20832.2 == 0)) = true then (if (y20832.2 == y20836.2) = true then (if b20830 = true then (some true) else (some (y20832.2 == 7))) else (some false)) else (some false)))
noncomputable def law09_MergeOrder_x1_0 (a0 : (List (List S30))) (b25423 : Bool) : Option (Bool) :=
  law09_MergeOrder_b1 a0 b25423
noncomputable def law09_MergeOrder_b2 (x23102 : Int) (b27454 : Bool) : Option ((Bool × Int) ⊕ ((Bool))) :=
  some (.inl (b27454, IntKind.i64.wrap (x23102 + 1)))
noncomputable def law09_MergeOrder_x2_2 (x23102 : Int) (b27647 : Bool) : Option ((Bool × Int) ⊕ ((Bool))) :=
  law09_MergeOrder_b2 x23102 b27647
noncomputable def law09_MergeOrder_b3 (x27551 : Int) (b27721 : Bool) : Option ((Bool × Int) ⊕ ((Bool))) :=
  some (.inl (b27721, IntKind.i64.wrap (x27551 + 1)))
noncomputable def law09_MergeOrder_l2 (a0 : (List (List S30))) (x23102 : Int) (b27550 : Bool) (x27551 : Int) : Option ((Bool × Int) ⊕ ((Bool))) :=
  (at_ a0 x23102).bind fun x27651 => (if (decide (x27551 < (x27651.length : Int))) = true then (if b27550 = true then ((at_ x27651 x27551).bind fun x27728 => ((at_ x27651 (IntKind.i64.wrap (x27551 - 1))).bind fun x27736 => ((r06_Before x27728 x27736).bind fun y27739 => (law09_MergeOrder_b3 x27551 (!y27739))))) else (law09_MergeOrder_b3 x27551 false)) else (some (.inr (b27550))))
noncomputable def law09_MergeOrder_l1 (a0 : (List (List S30))) (b23101 : Bool) (x23102 : Int) : Option ((Bool × Int) ⊕ ((Bool))) :=
  if (decide (x23102 < (a0.length : Int))) = true then ((loop (fun s => law09_MergeOrder_l2 a0 x23102 s.1 s.2) (b23101, 1)).bind fun t => law09_MergeOrder_x2_2 x23102 t) else (some (.inr (b23101)))
noncomputable def law09_MergeOrder_j1 (a0 : (List (List S30))) (b119 : Bool) : Option (Bool) :=
  if b119 = true then ((law09_awake).bind fun y122 => (some y122)) else ((loop (fun s => law09_MergeOrder_l1 a0 s.1 s.2) (true, 0)).bind fun t => law09_MergeOrder_x1_0 a0 t)
noncomputable def law09_MergeOrder (a0 : (List (List S30))) : Option (Bool) :=
  (law09_awake).bind fun y27741 => (if (!y27741) = true then (law09_MergeOrder_j1 a0 true) else ((law09_few a0).bind fun y27748 => (if (!y27748) = true then (law09_MergeOrder_j1 a0 true) else (if (decide ((a0.length : Int) < 1)) = true then (law09_MergeOrder_j1 a0 true) else (law09_MergeOrder_j1 a0 (decide (16 < (a0.length : Int))))))))
end Go.Proofs.Ytpanacifejpjhaa.M
