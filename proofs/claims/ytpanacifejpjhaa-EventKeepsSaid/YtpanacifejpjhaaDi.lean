/- Plain functions: what the Go functions of this part come to. -/
import Derived.Test.YtpanacifejpjhaaDh
namespace Go.Proofs.Ytpanacifejpjhaa.M
open Go Go.RowKit Go.Proofs.Ytpanacifejpjhaa.E
set_option linter.unusedVariables false
set_option linter.unusedSimpArgs false

/-! headrace/headracelaw06.EventSorts -/
noncomputable def law06_EventSorts_j1 (a0 : (List S30)) (b107 : Bool) : Option (Bool) :=
  if b107 = true then ((law06_awake).bind fun y110 => (some y110)) else ((event_Sort a0).bind fun y113 => ((r06_Sort a0).bind fun y118 => ((r06_SameAll y113 y118).bind fun y123 => (some y123))))
noncomputable def law06_EventSorts (a0 : (List S30)) : Option (Bool) :=
  (law06_awake).bind fun y125 => (if (!y125) = true then (law06_EventSorts_j1 a0 true) else (law06_EventSorts_j1 a0 (decide (60 < (a0.length : Int)))))

/-! headrace/headracelaw06.EventKeeps -/
noncomputable def law06_EventKeeps_b1 (a0 : (List S30)) : Option (Bool) :=
  (r06_SameAll a0 a0).bind fun y215 => (some y215)
noncomputable def law06_EventKeeps_x1_0 (a0 : (List S30)) : Option (Bool) :=
  law06_EventKeeps_b1 a0
noncomputable def law06_EventKeeps_l1 (l226 : (List S30)) (x227 : Int) : Option (((List S30) × Int) ⊕ ((Unit))) :=
  if (decide (x227 < (l226.length : Int))) = true then ((at_ l226 x227).bind fun x243 => (some (.inl (l226.set x227.toNat (⟨x243.f0, x243.f1, x243.f2, [120], x243.f4⟩ : S30), IntKind.i64.wrap (x227 + 1))))) else (some (.inr ()))
noncomputable def law06_EventKeeps_j1 (a0 : (List S30)) (b107 : Bool) : Option (Bool) :=
  if b107 = true then ((law06_awake).bind fun y110 => (some y110)) else (chk (([] : List S30).length + a0.length ≤ 140737488355328 / 48) ((event_Sort a0).bind fun y119 => ((loop (fun s => law06_EventKeeps_l1 s.1 s.2) (y119, 0)).bind fun t => law06_EventKeeps_x1_0 a0)))
noncomputable def law06_EventKeeps (a0 : (List S30)) : Option (Bool) :=
  (law06_awake).bind fun y245 => (if (!y245) = true then (law06_EventKeeps_j1 a0 true) else (law06_EventKeeps_j1 a0 (decide (60 < (a0.length : Int)))))
end Go.Proofs.Ytpanacifejpjhaa.M
