/- Plain functions: what the Go functions of this part come to. -/
import Derived.Test.YtpanacifejpjhaaDc
namespace Go.Proofs.Ytpanacifejpjhaa.M
open Go Go.RowKit Go.Proofs.Ytpanacifejpjhaa.E
set_option linter.unusedVariables false
set_option linter.unusedSimpArgs false

/-! headrace/headracelaw09.MergeKeeps -/
noncomputable def law09_MergeKeeps_b3 (y792 : ((List S30) × Int)) : Option (Bool) :=
  (merge_Tree_Next none).bind fun y1123 => (if (y792.2 == 0) = true then (some (!y1123.2.2.1)) else (some false))
noncomputable def law09_MergeKeeps_x1_4 (y792 : ((List S30) × Int)) : Option (Bool) :=
  law09_MergeKeeps_b3 y792
noncomputable def law09_MergeKeeps_l1 (l783 : (List (List S30))) (l787 : (List (List S30))) (x1153 : Int) : Option ((Int) ⊕ ((Unit) ⊕ (Bool))) :=
  if (decide (x1153 < (l787.length : Int))) = true then ((at_ l787 x1153).bind fun x1186 => ((at_ l783 x1153).bind fun x1193 => ((r06_SameAll x1186 x1193).bind fun y1200 => (if (!y1200) = true then (some (.inr (.inr false))) else (some (.inl (IntKind.i64.wrap (x1153 + 1)))))))) else (some (.inr (.inl ())))
noncomputable def law09_MergeKeeps_b2 (l783 : (List (List S30))) (l787 : (List (List S30))) (y792 : ((List S30) × Int)) : Option (Bool) :=
  (loop (fun s => law09_MergeKeeps_l1 l783 l787 s) (0)).bind fun t => match t with | (.inl t) => law09_MergeKeeps_x1_4 y792 | (.inr t) => some t
noncomputable def law09_MergeKeeps_x2_2 (l783 : (List (List S30))) (l787 : (List (List S30))) (y792 : ((List S30) × Int)) : Option (Bool) :=
  law09_MergeKeeps_b2 l783 l787 y792
noncomputable def law09_MergeKeeps_l2 (l1213 : (List S30)) (x1214 : Int) : Option (((List S30) × Int) ⊕ ((Unit))) :=
  if (decide (x1214 < (l1213.length : Int))) = true then ((at_ l1213 x1214).bind fun x1230 => (some (.inl (l1213.set x1214.toNat (⟨x1230.f0, x1230.f1, x1230.f2, [120], x1230.f4⟩ : S30), IntKind.i64.wrap (x1214 + 1))))) else (some (.inr ()))
noncomputable def law09_MergeKeeps_b1 (l783 : (List (List S30))) (l787 : (List (List S30))) : Option (Bool) :=
  (merge_All l787).bind fun y792 => ((loop (fun s => law09_MergeKeeps_l2 s.1 s.2) (y792.1, 0)).bind fun t => law09_MergeKeeps_x2_2 l783 l787 y792)
noncomputable def law09_MergeKeeps_x3_0 (l1386 : (List (List S30))) (l1390 : (List (List S30))) : Option (Bool) :=
  law09_MergeKeeps_b1 l1386 l1390
noncomputable def law09_MergeKeeps_l3 (a0 : (List (List S30))) (l1313 : (List (List S30))) (l1317 : (List (List S30))) (x1321 : Int) : Option (((List (List S30)) × (List (List S30)) × Int) ⊕ (((List (List S30)) × (List (List S30))))) :=
  if (decide (x1321 < (a0.length : Int))) = true then ((at_ a0 x1321).bind fun x1401 => ((r06_Sort x1401).bind fun y1408 => (chk (([] : List S30).length + y1408.length ≤ 140737488355328 / 48) (chk (l1317.length + [y1408].length ≤ 140737488355328 / 24) (chk (l1313.length + [y1408].length ≤ 140737488355328 / 24) (some (.inl (l1313 ++ [y1408], l1317 ++ [y1408], IntKind.i64.wrap (x1321 + 1))))))))) else (some (.inr (l1313, l1317)))
noncomputable def law09_MergeKeeps_j1 (a0 : (List (List S30))) (b119 : Bool) : Option (Bool) :=
  if b119 = true then ((law09_awake).bind fun y122 => (some y122)) else ((loop (fun s => law09_MergeKeeps_l3 a0 s.1 s.2.1 s.2.2) ([], [], 0)).bind fun t => law09_MergeKeeps_x3_0 t.1 t.2)
noncomputable def law09_MergeKeeps (a0 : (List (List S30))) : Option (Bool) :=
  (law09_awake).bind fun y1443 => (if (!y1443) = true then (law09_MergeKeeps_j1 a0 true) else ((law09_few a0).bind fun y1450 => (if (!y1450) = true then (law09_MergeKeeps_j1 a0 true) else (if (decide ((a0.length : Int) < 1)) = true then (law09_MergeKeeps_j1 a0 true) else (law09_MergeKeeps_j1 a0 (decide (16 < (a0.length : Int))))))))
end Go.Proofs.Ytpanacifejpjhaa.M
