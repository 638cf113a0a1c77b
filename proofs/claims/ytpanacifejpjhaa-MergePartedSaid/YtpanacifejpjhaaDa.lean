/- Plain functions: what the Go functions of this part come to. -/
import Derived.Test.YtpanacifejpjhaaDs
namespace Go.Proofs.Ytpanacifejpjhaa.M
open Go Go.RowKit Go.Proofs.Ytpanacifejpjhaa.E
set_option linter.unusedVariables false
set_option linter.unusedSimpArgs false

/-! headrace/headraceref06.Before -/
noncomputable def r06_Before (a0 : S30) (a1 : S30) : Option (Bool) :=
  if (!(a0.f3 == a1.f3)) = true then (some (Op.bytesLess a0.f3 a1.f3)) else (if (a0.f2 != a1.f2) = true then (some (decide (a0.f2 < a1.f2))) else (some (decide (a0.f0 < a1.f0))))

/-! headrace/event.Less -/
noncomputable def event_Less (a0 : S30) (a1 : S30) : Option (Bool) :=
  if (!(a0.f3 == a1.f3)) = true then (some (Op.bytesLess a0.f3 a1.f3)) else (if (a0.f2 != a1.f2) = true then (some (decide (a0.f2 < a1.f2))) else (some (decide (a0.f0 < a1.f0))))

/-! headrace/headracelaw09.few -/
noncomputable def law09_few_b1 (a0 : (List (List S30))) : Option (Bool) :=
  some (decide ((a0.length : Int) ≤ 40))
noncomputable def law09_few_x1_0 (a0 : (List (List S30))) : Option (Bool) :=
  law09_few_b1 a0
noncomputable def law09_few_j1 (a0 : (List (List S30))) (x473 : Int) (x474 : Int) (b527 : Bool) : Option ((Int × Int) ⊕ ((Unit) ⊕ (Bool))) :=
  if b527 = true then (some (.inr (.inr false))) else ((at_ a0 x474).bind fun x530 => (some (.inl (IntKind.i64.wrap (x473 + (x530.length : Int)), IntKind.i64.wrap (x474 + 1)))))
noncomputable def law09_few_l1 (a0 : (List (List S30))) (x473 : Int) (x474 : Int) : Option ((Int × Int) ⊕ ((Unit) ⊕ (Bool))) :=
  if (decide (x474 < (a0.length : Int))) = true then ((at_ a0 x474).bind fun x537 => (if (decide (100 < (x537.length : Int))) = true then (law09_few_j1 a0 x473 x474 true) else (law09_few_j1 a0 x473 x474 (decide (200 < x473))))) else (some (.inr (.inl ())))
noncomputable def law09_few (a0 : (List (List S30))) : Option (Bool) :=
  (loop (fun s => law09_few_l1 a0 s.1 s.2) (0, 0)).bind fun t => match t with | (.inl t) => law09_few_x1_0 a0 | (.inr t) => some t

/-! headrace/headraceref06.Sort -/
noncomputable def r06_Sort_b1 (l3293 : (List S30)) : Option ((List S30)) :=
  some l3293
noncomputable def r06_Sort_x1_0 (l4009 : (List S30)) : Option ((List S30)) :=
  r06_Sort_b1 l4009
noncomputable def r06_Sort_b2 (a0 : (List S30)) (l3655 : (List S30)) (x3659 : Int) (x4256 : Int) : Option (((List S30) × Int) ⊕ (((List S30)))) :=
  (cut_ l3655 0 x4256).bind fun l4259 => (chk (([] : List S30).length + l4259.length ≤ 140737488355328 / 48) ((at_ a0 x3659).bind fun x4266 => (chk (l4259.length + [x4266].length ≤ 140737488355328 / 48) ((cut_ l3655 x4256 (l3655.length : Int)).bind fun l4274 => (chk ((l4259 ++ [x4266]).length + l4274.length ≤ 140737488355328 / 48) (some (.inl ((l4259 ++ [x4266]) ++ l4274, IntKind.i64.wrap (x3659 + 1)))))))))
noncomputable def r06_Sort_x2_2 (a0 : (List S30)) (l3655 : (List S30)) (x3659 : Int) (x4331 : Int) : Option (((List S30) × Int) ⊕ (((List S30)))) :=
  r06_Sort_b2 a0 l3655 x3659 x4331
noncomputable def r06_Sort_j1 (x4305 : Int) (b4344 : Bool) : Option ((Int) ⊕ ((Int))) :=
  if b4344 = true then (some (.inl (IntKind.i64.wrap (x4305 - 1)))) else (some (.inr (x4305)))
noncomputable def r06_Sort_l2 (a0 : (List S30)) (l3655 : (List S30)) (x3659 : Int) (x4305 : Int) : Option ((Int) ⊕ ((Int))) :=
  if (decide (0 < x4305)) = true then ((at_ a0 x3659).bind fun x4348 => ((at_ l3655 (IntKind.i64.wrap (x4305 - 1))).bind fun x4351 => ((r06_Before x4348 x4351).bind fun y4354 => (r06_Sort_j1 x4305 y4354)))) else (r06_Sort_j1 x4305 false)
noncomputable def r06_Sort_l1 (a0 : (List S30)) (l3655 : (List S30)) (x3659 : Int) : Option (((List S30) × Int) ⊕ (((List S30)))) :=
  if (decide (x3659 < (a0.length : Int))) = true then ((loop (fun s => r06_Sort_l2 a0 l3655 x3659 s) ((l3655.length : Int))).bind fun t => r06_Sort_x2_2 a0 l3655 x3659 t) else (some (.inr (l3655)))
noncomputable def r06_Sort (a0 : (List S30)) : Option ((List S30)) :=
  (loop (fun s => r06_Sort_l1 a0 s.1 s.2) ([], 0)).bind fun t => r06_Sort_x1_0 t
end Go.Proofs.Ytpanacifejpjhaa.M
