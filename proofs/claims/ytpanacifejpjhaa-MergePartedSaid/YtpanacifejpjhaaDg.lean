/- Plain functions: what the Go functions of this part come to. -/
import Derived.Test.YtpanacifejpjhaaDc
namespace Go.Proofs.Ytpanacifejpjhaa.M
open Go Go.RowKit Go.Proofs.Ytpanacifejpjhaa.E
set_option linter.unusedVariables false
set_option linter.unusedSimpArgs false

/-! headrace/headracelaw09.MergeParted -/
noncomputable def law09_MergeParted_b2 : Option (Bool) :=
  some true
noncomputable def law09_MergeParted_x1_2 : Option (Bool) :=
  law09_MergeParted_b2
noncomputable def law09_MergeParted_j3 (x925 : Int) (b983 : Bool) : Option ((Int) ⊕ ((Unit) ⊕ (Bool))) :=
  if b983 = true then (some (.inr (.inr false))) else (some (.inl (IntKind.i64.wrap (x925 + 1))))
noncomputable def law09_MergeParted_l1 (y128 : ((List S30))) (y534 : ((List S30) × Int)) (x925 : Int) : Option ((Int) ⊕ ((Unit) ⊕ (Bool))) :=
  if (decide (x925 < (y128.length : Int))) = true then ((at_ y128 x925).bind fun x986 => ((at_ y534.1 x925).bind fun x989 => ((r06_Before x986 x989).bind fun y992 => (if y992 = true then (law09_MergeParted_j3 x925 true) else ((r06_Before x989 x986).bind fun y997 => (law09_MergeParted_j3 x925 y997)))))) else (some (.inr (.inl ())))
noncomputable def law09_MergeParted_j2 (y128 : ((List S30))) (y534 : ((List S30) × Int)) (b542 : Bool) : Option (Bool) :=
  if b542 = true then (some false) else ((loop (fun s => law09_MergeParted_l1 y128 y534 s) (0)).bind fun t => match t with | (.inl t) => law09_MergeParted_x1_2 | (.inr t) => some t)
noncomputable def law09_MergeParted_b1 (y128 : ((List S30))) (l528 : (List (List S30))) : Option (Bool) :=
  (merge_All l528).bind fun y534 => (if (y534.2 != 0) = true then (law09_MergeParted_j2 y128 y534 true) else (law09_MergeParted_j2 y128 y534 ((y534.1.length : Int) != (y128.length : Int))))
noncomputable def law09_MergeParted_x2_0 (y128 : ((List S30))) (l1086 : (List (List S30))) : Option (Bool) :=
  law09_MergeParted_b1 y128 l1086
noncomputable def law09_MergeParted_j4 (y128 : ((List S30))) (l1042 : (List (List S30))) (x1043 : Int) (x1102 : Int) : Option (((List (List S30)) × Int) ⊕ (((List (List S30))))) :=
  (at_ l1042 x1102).bind fun x1103 => ((at_ y128 x1043).bind fun x1112 => (chk (x1103.length + [x1112].length ≤ 140737488355328 / 48) (some (.inl (l1042.set x1102.toNat (x1103 ++ [x1112]), IntKind.i64.wrap (x1043 + 1))))))
noncomputable def law09_MergeParted_l2 (a1 : (List Int)) (y128 : ((List S30))) (l1042 : (List (List S30))) (x1043 : Int) : Option (((List (List S30)) × Int) ⊕ (((List (List S30))))) :=
  if (decide (x1043 < (y128.length : Int))) = true then (chk ((IntKind.i64.wrap (1 + ((a1.length : Int).tmod 16))) ≠ 0) (if (decide (x1043 < (a1.length : Int))) = true then ((at_ a1 x1043).bind fun x1123 => (chk ((IntKind.i64.wrap (1 + ((a1.length : Int).tmod 16))) ≠ 0) (law09_MergeParted_j4 y128 l1042 x1043 ((IntKind.i64.wrap x1123).tmod (IntKind.i64.wrap (1 + ((a1.length : Int).tmod 16))))))) else (law09_MergeParted_j4 y128 l1042 x1043 (x1043.tmod (IntKind.i64.wrap (1 + ((a1.length : Int).tmod 16))))))) else (some (.inr (l1042)))
noncomputable def law09_MergeParted_j1 (a0 : (List S30)) (a1 : (List Int)) (b117 : Bool) : Option (Bool) :=
  if b117 = true then ((law09_awake).bind fun y120 => (some y120)) else ((r06_Sort a0).bind fun y128 => (chk (0 ≤ (IntKind.i64.wrap (1 + ((a1.length : Int).tmod 16))) ∧ (24 : Int) * (IntKind.i64.wrap (1 + ((a1.length : Int).tmod 16))) ≤ 140737488355328) ((loop (fun s => law09_MergeParted_l2 a1 y128 s.1 s.2) (List.replicate (IntKind.i64.wrap (1 + ((a1.length : Int).tmod 16))).toNat ([] : (List S30)), 0)).bind fun t => law09_MergeParted_x2_0 y128 t)))
noncomputable def law09_MergeParted (a0 : (List S30)) (a1 : (List Int)) : Option (Bool) :=
  (law09_awake).bind fun y1127 => (if (!y1127) = true then (law09_MergeParted_j1 a0 a1 true) else (law09_MergeParted_j1 a0 a1 (decide (100 < (a0.length : Int)))))
end Go.Proofs.Ytpanacifejpjhaa.M
