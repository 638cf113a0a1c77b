/- Plain functions: what the Go functions of this part come to. -/
import Derived.Test.YtpanacifejpjhaaDc
namespace Go.Proofs.Ytpanacifejpjhaa.M
open Go Go.RowKit Go.Proofs.Ytpanacifejpjhaa.E
set_option linter.unusedVariables false
set_option linter.unusedSimpArgs false

/-! headrace/headracelaw09.MergeRuns -/
noncomputable def law09_MergeRuns_b2 (o7503 : (Option S48)) : Option (Bool) :=
  (merge_Tree_Next o7503).bind fun y7505 => ((merge_Tree_Next y7505.2.2.2).bind fun y7509 => (if (!y7505.2.2.1) = true then (some (!y7509.2.2.1)) else (some false)))
noncomputable def law09_MergeRuns_x1_2 (o9025 : (Option S48)) : Option (Bool) :=
  law09_MergeRuns_b2 o9025
noncomputable def law09_MergeRuns_b3 (l8269 : (List Int)) (x8270 : Int) (y9033 : (S30 × Int × Bool × (Option S48))) : Option (((Option S48) × (List Int) × Int) ⊕ (((Option S48)) ⊕ (Bool))) :=
  (at_ l8269 y9033.2.1).bind fun x9576 => (some (.inl (y9033.2.2.2, l8269.set y9033.2.1.toNat (IntKind.i64.wrap (x9576 + 1)), IntKind.i64.wrap (x8270 + 1))))
noncomputable def law09_MergeRuns_x2_4 (l8269 : (List Int)) (x8270 : Int) (y9033 : (S30 × Int × Bool × (Option S48))) : Option (((Option S48) × (List Int) × Int) ⊕ (((Option S48)) ⊕ (Bool))) :=
  law09_MergeRuns_b3 l8269 x8270 y9033
noncomputable def law09_MergeRuns_j5 (x9634 : Int) (b9719 : Bool) : Option ((Int) ⊕ ((Unit) ⊕ (Bool))) :=
  if b9719 = true then (some (.inr (.inr false))) else (some (.inl (IntKind.i64.wrap (x9634 + 1))))
noncomputable def law09_MergeRuns_l2 (l660 : (List (List S30))) (l8269 : (List Int)) (y9033 : (S30 × Int × Bool × (Option S48))) (x9634 : Int) : Option ((Int) ⊕ ((Unit) ⊕ (Bool))) :=
  if (decide (x9634 < y9033.2.1)) = true then ((at_ l8269 x9634).bind fun x9722 => ((at_ l660 x9634).bind fun x9725 => (if (decide (x9722 < (x9725.length : Int))) = true then ((at_ x9725 x9722).bind fun x9739 => ((r06_Before y9033.1 x9739).bind fun y9742 => (law09_MergeRuns_j5 x9634 (!y9742)))) else (law09_MergeRuns_j5 x9634 false)))) else (some (.inr (.inl ())))
noncomputable def law09_MergeRuns_j4 (l660 : (List (List S30))) (l8269 : (List Int)) (x8270 : Int) (y9033 : (S30 × Int × Bool × (Option S48))) (b9069 : Bool) : Option (((Option S48) × (List Int) × Int) ⊕ (((Option S48)) ⊕ (Bool))) :=
  if b9069 = true then (some (.inr (.inr false))) else ((loop (fun s => law09_MergeRuns_l2 l660 l8269 y9033 s) (0)).bind fun t => match t with | (.inl t) => law09_MergeRuns_x2_4 l8269 x8270 y9033 | (.inr t) => some (.inr (.inr t)))
noncomputable def law09_MergeRuns_l1 (a0 : (List (List S30))) (l660 : (List (List S30))) (y687 : ((List S30))) (o8268 : (Option S48)) (l8269 : (List Int)) (x8270 : Int) : Option (((Option S48) × (List Int) × Int) ⊕ (((Option S48)) ⊕ (Bool))) :=
  if (decide (x8270 < (y687.length : Int))) = true then ((merge_Tree_Next o8268).bind fun y9033 => (if (!y9033.2.2.1) = true then (law09_MergeRuns_j4 l660 l8269 x8270 y9033 true) else (if (decide (y9033.2.1 < 0)) = true then (law09_MergeRuns_j4 l660 l8269 x8270 y9033 true) else (if (decide ((a0.length : Int) ≤ y9033.2.1)) = true then (law09_MergeRuns_j4 l660 l8269 x8270 y9033 true) else ((at_ l8269 y9033.2.1).bind fun x9747 => ((at_ l660 y9033.2.1).bind fun x9750 => (if (decide ((x9750.length : Int) ≤ x9747)) = true then (law09_MergeRuns_j4 l660 l8269 x8270 y9033 true) else ((at_ x9750 x9747).bind fun x9764 => ((r06_Same y9033.1 x9764).bind fun y9767 => (if (!y9767) = true then (law09_MergeRuns_j4 l660 l8269 x8270 y9033 true) else ((at_ y687 x8270).bind fun x9770 => ((r06_Same y9033.1 x9770).bind fun y9773 => (law09_MergeRuns_j4 l660 l8269 x8270 y9033 (!y9773)))))))))))))) else (some (.inr (.inl (o8268))))
noncomputable def law09_MergeRuns_j3 (a0 : (List (List S30))) (l660 : (List (List S30))) (y669 : ((Option S48) × Int)) (y687 : ((List S30))) (b698 : Bool) : Option (Bool) :=
  if b698 = true then (some false) else (chk (0 ≤ (a0.length : Int) ∧ (8 : Int) * (a0.length : Int) ≤ 140737488355328) ((loop (fun s => law09_MergeRuns_l1 a0 l660 y687 s.1 s.2.1 s.2.2) (y669.1, List.replicate (a0.length : Int).toNat 0, 0)).bind fun t => match t with | (.inl t) => law09_MergeRuns_x1_2 t | (.inr t) => some t))
noncomputable def law09_MergeRuns_j2 (a0 : (List (List S30))) (l660 : (List (List S30))) (l664 : (List S30)) (y669 : ((Option S48) × Int)) (y673 : ((List S30) × Int)) (b681 : Bool) : Option (Bool) :=
  if b681 = true then (if (y669.2 == 1) = true then (if (y673.2 == 1) = true then (some y669.1.isNone) else (some false)) else (some false)) else ((r06_Sort l664).bind fun y687 => (if (y669.2 != 0) = true then (law09_MergeRuns_j3 a0 l660 y669 y687 true) else (if (y673.2 != 0) = true then (law09_MergeRuns_j3 a0 l660 y669 y687 true) else ((r06_SameAll y673.1 y687).bind fun y9777 => (law09_MergeRuns_j3 a0 l660 y669 y687 (!y9777))))))
noncomputable def law09_MergeRuns_b1 (a0 : (List (List S30))) (l660 : (List (List S30))) (l664 : (List S30)) : Option (Bool) :=
  (merge_New l660).bind fun y669 => ((merge_All l660).bind fun y673 => (if (decide ((a0.length : Int) < 1)) = true then (law09_MergeRuns_j2 a0 l660 l664 y669 y673 true) else (law09_MergeRuns_j2 a0 l660 l664 y669 y673 (decide (16 < (a0.length : Int))))))
noncomputable def law09_MergeRuns_x3_0 (a0 : (List (List S30))) (l9907 : (List (List S30))) (l9911 : (List S30)) : Option (Bool) :=
  law09_MergeRuns_b1 a0 l9907 l9911
noncomputable def law09_MergeRuns_l3 (a0 : (List (List S30))) (l9847 : (List (List S30))) (l9851 : (List S30)) (x9855 : Int) : Option (((List (List S30)) × (List S30) × Int) ⊕ (((List (List S30)) × (List S30)))) :=
  if (decide (x9855 < (a0.length : Int))) = true then ((at_ a0 x9855).bind fun x9922 => ((r06_Sort x9922).bind fun y9929 => (chk (l9847.length + [y9929].length ≤ 140737488355328 / 24) (chk (l9851.length + y9929.length ≤ 140737488355328 / 48) (some (.inl (l9847 ++ [y9929], l9851 ++ y9929, IntKind.i64.wrap (x9855 + 1)))))))) else (some (.inr (l9847, l9851)))
noncomputable def law09_MergeRuns_j1 (a0 : (List (List S30))) (b117 : Bool) : Option (Bool) :=
  if b117 = true then ((law09_awake).bind fun y120 => (some y120)) else ((loop (fun s => law09_MergeRuns_l3 a0 s.1 s.2.1 s.2.2) ([], [], 0)).bind fun t => law09_MergeRuns_x3_0 a0 t.1 t.2)
noncomputable def law09_MergeRuns (a0 : (List (List S30))) : Option (Bool) :=
  (law09_awake).bind fun y9950 => (if (!y9950) = true then (law09_MergeRuns_j1 a0 true) else ((law09_few a0).bind fun y9957 => (law09_MergeRuns_j1 a0 (!y9957))))
end Go.Proofs.Ytpanacifejpjhaa.M
