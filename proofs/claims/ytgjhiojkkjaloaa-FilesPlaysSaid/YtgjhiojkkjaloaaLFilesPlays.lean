/- The row of FilesPlays, out of its plain law. -/
import Derived.Test.YtgjhiojkkjaloaaRows
import Derived.Test.YtgjhiojkkjaloaaOp
import Derived.Test.YtgjhiojkkjaloaaMk
namespace Go.Proofs.Ytgjhiojkkjaloaa.filesPlays
open Go Go.RowKit Go.ChangeShapes Go.WideShapes Go.ChangeAt Go.Proofs.Ytgjhiojkkjaloaa.E Go.Proofs.Ytgjhiojkkjaloaa.M
set_option linter.unusedVariables false
theorem own : ownKnob Try.prog.godebug = none := by kernel_rfl
theorem laidOut : laidOutB Try.prog = true := by kernel_rfl
def Pure : Prop := ∀ (a0 : Int) (a1 : (List M.S45)), (gI .i64) a0 → (gL 80 M.g45) a1 → M.law05_FilesPlays a0 a1 = some true
set_option maxRecDepth 100000 in
theorem lifted (hP : Pure) (os : Os) (started : os.Started) (H : Type) (enc : TypeId × Value → H) :
    ReturnsInHanded {} Try.checked os 8 .any (Rows.filesPlaysSpec.pre6 enc Try.prog Try.f8 Rows.filesPlaysRow.domain false) (Rows.filesPlaysSpec.post enc Try.prog Try.f8 false true false false) := by
  refine returnsInHanded_of_change_sized (C := Try.checked) own started (by kernel_rfl) Try.func8
    (ChangeSpec.witness6 (enc := enc) (C := Try.checked) false ⟨#[], #[.int .i64 0, .slice none 0 0], []⟩ 8 (by kernel_rfl) (by kernel_rfl) (by kernel_rfl) (by kernel_rfl)) ?_
  intro W base args ds gs before hval0 hW hcnd hsz0 _
  have hsz : (DataW.weightsEach Try.prog (Try.f8.params.toList ++ Rows.filesPlaysSpec.plain.varTypes Try.prog) (ds ++ gs)).all (· ≤ reachBytes) = true := hsz0
  have hval : ∀ (j : Nat) t v, Try.f8.params[j]? = some t → args[j]? = some v → Value.okWide Try.prog W .any base t v := hval0
  have hW' := hW
  obtain ⟨p, q, hA0, hV, rfl, hfz, hnd⟩ := hW
  have hA : DataW.TrodAll enc Try.prog W 0 (fun _ => true) true Try.f8.params.toList args.toList ds p := hA0
  rw [Try.params8] at hA hval hsz
  obtain ⟨v0, vs0, d0, ds0, p0, q0, hargs, rfl, rfl, h0, r0⟩ := trodAll_cons hA
  obtain ⟨v1, vs1, d1, ds1, p1, q1, rfl, rfl, rfl, h1, r1⟩ := trodAll_cons r0
  obtain ⟨rfl, rfl, rfl⟩ := trodAll_nil r1
  obtain rfl : args = #[v0, v1] := by cases args; simp_all
  obtain ⟨rfl, rfl⟩ := trodVars_none hV
  have k0 := h0
  have lt0 : ∀ x ∈ p0, x.block < W.heap.size := by obtain ⟨m, hm⟩ := k0; exact DataW.trod_lt m _ _ _ hm
  obtain ⟨x0, hx0, g0⟩ := Opens.arg (opI Try.underlying3) h0 (Wt.of hsz (j := 0) rfl rfl)
  obtain ⟨u0, rfl⟩ := okWide_int Try.underlying3 (hval 0 3 v0 rfl rfl)
  cases (show [Value.int .i64 u0] = [Value.int .i64 x0] from hx0)
  have k1 := h1
  have lt1 : ∀ x ∈ p1, x.block < W.heap.size := by obtain ⟨m, hm⟩ := k1; exact DataW.trod_lt m _ _ _ hm
  obtain ⟨x1, hx1, g1⟩ := Opens.arg (opSl Try.underlying42 ce45 (Nat.succ_pos _) by45 op45) h1 (Wt.of hsz (j := 1) rfl rfl)
  obtain ⟨A1, n1, c1, rfl⟩ := okWide_slice Try.underlying42 (hval 1 42 v1 rfl rfl)
  obtain ⟨A1', n1', c1', he1, i1⟩ := hx1
  cases (show [Value.slice A1 n1 c1] = [Value.slice A1' n1' c1'] from he1)
  clear hA0 hval0 hsz0 hsz
  refine Calls.mono (M.F_law05_FilesPlays (Z := HeapZ W) (wz := W) x0 x1 A1 n1 c1 (hP x0 x1 g0 g1) 0 rfl (i1.rdl 0 rfl) (L := [zone (HeapZ W) W]) (SH.start W)) ?_
  rintro e W' ⟨v, rfl, rfl, hS⟩
  have bel := SH.below hS (Sub.refl _ _)
  exact ⟨_, rfl, _, _, _, [], _, [], hW', trodAll_mk1 (shut_bool Try.underlying4 _), (trodAll_cons_mk (Below.trod laidOut (by kernel_rfl) (of_decide_eq_true (by kernel_rfl)) k0 bel lt0) (trodAll_cons_mk (Below.trod laidOut (by kernel_rfl) (of_decide_eq_true (by kernel_rfl)) k1 bel lt1) trodAll_mk0)), rfl, bel.frame _, fun h => by cases h⟩
theorem over (hP : Pure) : Rows.filesPlaysRow.holds Try.pinned (OpenSpec.ofChange Rows.filesPlaysSpec) :=
  OpenClaim.holds_of_wide 8 Try.f8 rfl rfl rfl rfl rfl rfl rfl ⟨rfl, rfl, rfl, rfl, rfl⟩ rfl rfl rfl rfl rfl (by kernel_rfl) Try.func8 (by kernel_rfl)
    (of_decide_eq_true (by kernel_rfl)) (by unfold Func.isWrapper; first | (rw [if_pos (by decide +kernel)]; kernel_rfl) | (rw [if_neg (by decide +kernel)]; exact ⟨rfl, rfl⟩))
    (fun os started H enc _ => lifted hP os started H enc)
theorem said (hP : Pure) : Rows.FilesPlaysSaid := over hP
end Go.Proofs.Ytgjhiojkkjaloaa.filesPlays
