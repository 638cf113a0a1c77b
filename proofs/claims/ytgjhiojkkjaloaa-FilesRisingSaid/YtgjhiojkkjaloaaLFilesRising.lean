/- The row of FilesRising, out of its plain law. -/
import Derived.Test.YtgjhiojkkjaloaaRows
import Derived.Test.YtgjhiojkkjaloaaOp
import Derived.Test.YtgjhiojkkjaloaaMj
namespace Go.Proofs.Ytgjhiojkkjaloaa.filesRising
open Go Go.RowKit Go.ChangeShapes Go.WideShapes Go.ChangeAt Go.Proofs.Ytgjhiojkkjaloaa.E Go.Proofs.Ytgjhiojkkjaloaa.M
set_option linter.unusedVariables false
theorem own : ownKnob Try.prog.godebug = none := by kernel_rfl
theorem laidOut : laidOutB Try.prog = true := by kernel_rfl
def Pure : Prop := ∀ (a0 : (List M.S45)), (gL 80 M.g45) a0 → M.law05_FilesRising a0 = some true
set_option maxRecDepth 100000 in
theorem lifted (hP : Pure) (os : Os) (started : os.Started) (H : Type) (enc : TypeId × Value → H) :
    ReturnsInHanded {} Try.checked os 6 .any (Rows.filesRisingSpec.pre6 enc Try.prog Try.f6 Rows.filesRisingRow.domain false) (Rows.filesRisingSpec.post enc Try.prog Try.f6 false true false false) := by
  refine returnsInHanded_of_change_sized (C := Try.checked) own started (by kernel_rfl) Try.func6
    (ChangeSpec.witness6 (enc := enc) (C := Try.checked) false ⟨#[], #[.slice none 0 0], []⟩ 8 (by kernel_rfl) (by kernel_rfl) (by kernel_rfl) (by kernel_rfl)) ?_
  intro W base args ds gs before hval0 hW hcnd hsz0 _
  have hsz : (DataW.weightsEach Try.prog (Try.f6.params.toList ++ Rows.filesRisingSpec.plain.varTypes Try.prog) (ds ++ gs)).all (· ≤ reachBytes) = true := hsz0
  have hval : ∀ (j : Nat) t v, Try.f6.params[j]? = some t → args[j]? = some v → Value.okWide Try.prog W .any base t v := hval0
  have hW' := hW
  obtain ⟨p, q, hA0, hV, rfl, hfz, hnd⟩ := hW
  have hA : DataW.TrodAll enc Try.prog W 0 (fun _ => true) true Try.f6.params.toList args.toList ds p := hA0
  rw [Try.params6] at hA hval hsz
  obtain ⟨v0, vs0, d0, ds0, p0, q0, hargs, rfl, rfl, h0, r0⟩ := trodAll_cons hA
  obtain ⟨rfl, rfl, rfl⟩ := trodAll_nil r0
  obtain rfl : args = #[v0] := by cases args; simp_all
  obtain ⟨rfl, rfl⟩ := trodVars_none hV
  have k0 := h0
  have lt0 : ∀ x ∈ p0, x.block < W.heap.size := by obtain ⟨m, hm⟩ := k0; exact DataW.trod_lt m _ _ _ hm
  obtain ⟨x0, hx0, g0⟩ := Opens.arg (opSl Try.underlying42 ce45 (Nat.succ_pos _) by45 op45) h0 (Wt.of hsz (j := 0) rfl rfl)
  obtain ⟨A0, n0, c0, rfl⟩ := okWide_slice Try.underlying42 (hval 0 42 v0 rfl rfl)
  obtain ⟨A0', n0', c0', he0, i0⟩ := hx0
  cases (show [Value.slice A0 n0 c0] = [Value.slice A0' n0' c0'] from he0)
  clear hA0 hval0 hsz0 hsz
  refine Calls.mono (M.F_law05_FilesRising (Z := HeapZ W) (wz := W) x0 A0 n0 c0 (hP x0 g0) 0 rfl (i0.rdl 0 rfl) (L := [zone (HeapZ W) W]) (SH.start W)) ?_
  rintro e W' ⟨v, rfl, rfl, hS⟩
  have bel := SH.below hS (Sub.refl _ _)
  exact ⟨_, rfl, _, _, _, [], _, [], hW', trodAll_mk1 (shut_bool Try.underlying4 _), (trodAll_cons_mk (Below.trod laidOut (by kernel_rfl) (of_decide_eq_true (by kernel_rfl)) k0 bel lt0) trodAll_mk0), rfl, bel.frame _, fun h => by cases h⟩
theorem over (hP : Pure) : Rows.filesRisingRow.holds Try.pinned (OpenSpec.ofChange Rows.filesRisingSpec) :=
  OpenClaim.holds_of_wide 6 Try.f6 rfl rfl rfl rfl rfl rfl rfl ⟨rfl, rfl, rfl, rfl, rfl⟩ rfl rfl rfl rfl rfl (by kernel_rfl) Try.func6 (by kernel_rfl)
    (of_decide_eq_true (by kernel_rfl)) (by unfold Func.isWrapper; first | (rw [if_pos (by decide +kernel)]; kernel_rfl) | (rw [if_neg (by decide +kernel)]; exact ⟨rfl, rfl⟩))
    (fun os started H enc _ => lifted hP os started H enc)
theorem said (hP : Pure) : Rows.FilesRisingSaid := over hP
end Go.Proofs.Ytgjhiojkkjaloaa.filesRising
