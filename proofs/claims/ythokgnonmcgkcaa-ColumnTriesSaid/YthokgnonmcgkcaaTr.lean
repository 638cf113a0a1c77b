/- A call of column.Try: the function that is handed in returns, or gives up. -/
import Derived.Test.YthokgnonmcgkcaaEi
import Derived.Test.YthokgnonmcgkcaaGr
namespace Go.Proofs.Ythokgnonmcgkcaa.M
open Go Go.RowKit Go.Proofs.Ythokgnonmcgkcaa.E
set_option linter.unusedVariables false
set_option linter.unusedSimpArgs false

theorem catch_pan {r : World} {L : List HP} {g : Nat} {b : Bool} {w : World} (hS : SH r (blk g 4 [.bool b] :: L) w) :
    CallsD Try.prog 39 #[.pointer (some ⟨g, 0, none⟩)] (.panicking badC) w fun e u' w' => e = .returned (.tuple #[]) ∧ u' = .panicking [{ v := .iface 69 (.agg #[]), recovered := true }] ∧ SH r (blk g 4 [.bool false] :: L) w' := by
  refine callsD_of_wpS Try.func39 rfl fun c₀ cs hu => ?_
  apply wpS_seq
  apply wpS_region
  simp only [List.size_toArray, List.length_cons, List.length_nil, Nat.zero_add]
  rw [show List.range (1 + 1) = [0, 1] from rfl]
  simp [wpOpsS, go_sem, recoverD, hu, badC, Try.ntmps39, Exit.thenS]
  generalize hac : ({ tmps := _, defers := _ } : Act) = ac
  have hA : FR 15 [] ac [(0, .pointer (some ⟨g, 0, none⟩)), (1, .iface 69 (.agg #[]))] := by
    subst hac
    refine ⟨by simp, rfl, fun t v hv => ?_⟩
    simp only [lk] at hv
    by_cases e0 : t = 0
    · subst e0; cases hv; rfl
    by_cases e1 : t = 1
    · subst e1; cases hv; rfl
    · exfalso
      rw [show Nat.beq 0 t = false by cases h : Nat.beq 0 t; rfl; exact absurd (Nat.eq_of_beq_eq_true h).symm e0, show Nat.beq 1 t = false by cases h : Nat.beq 1 t; rfl; exact absurd (Nat.eq_of_beq_eq_true h).symm e1] at hv
      cases hv
  clear hac
  refine wpS_of_wp ?_
  have fin : ∀ (a : Act) (w : World), FR 15 [] a [] → SH r (blk g 4 [.bool false] :: L) w → bodyPostS Try.prog Try.f39 c₀ cs (fun e u' w' => e = .returned (.tuple #[]) ∧ u' = .panicking [{ v := .iface 69 (.agg #[]), recovered := true }] ∧ SH r (blk g 4 [.bool false] :: L) w') .normal a ({ c₀ with mode := .panicking [{ v := .iface 69 (.agg #[]), recovered := true }] } :: cs) w := by
    intro a w hA hS
    exact ⟨hA.defers, _, rfl, _, results_none Try.results39 _ _ _, rfl, rfl, hS⟩
  refine wp_seq_k fun K1 h1 => ?_
  refine wp_reg ?_
  refine x_move hA (fun ac hA => ?_)
  refine x_val (v := .bool true) hA (r_neIfNil Try.underlying20 rfl (hA.ev rfl) (hA.ev rfl)) (fun ac hA => ?_)
  refine wpList_nil ?_
  refine h1 _ _ ?_
  refine c_t (b := true) rfl hA ?_
  refine wp_seq_k fun K4 h4 => ?_
  refine wp_seq_k fun K2 h2 => ?_
  refine wp_reg ?_
  refine x_move hA (fun ac hA => ?_)
  refine x_val (v := .tuple #[.agg #[], .bool true]) hA (r_typeAssert Try.underlying69 rfl rfl (hA.ev rfl)) (fun ac hA => ?_)
  refine x_move hA (fun ac hA => ?_)
  refine x_val hA (r_extract rfl (hA.ev rfl) rfl) (fun ac hA => ?_)
  refine x_val hA (r_extract rfl (hA.ev rfl) rfl) (fun ac hA => ?_)
  refine x_alloc (cs := []) zr69 hA hS (fun g2 ac w hS hA => ?_)
  refine x_stb (vs := []) 0 sz69 hA hS rfl (fun ac w hS hA => ?_)
  refine x_assign hA (fun ac hA => ?_)
  refine wpList_nil ?_
  refine h2 _ _ ?_
  refine wp_seq_k fun K3 h3 => ?_
  refine wp_reg ?_
  refine x_move hA (fun ac hA => ?_)
  refine x_val hA (r_not rfl (hA.ev rfl)) (fun ac hA => ?_)
  refine wpList_nil ?_
  refine h3 _ _ ?_
  refine c_f (b := !true) rfl hA ?_
  refine wp_skip ?_
  refine h4 _ _ ?_
  refine wp_reg ?_
  refine x_stb (vs := [.bool false]) 1 sz4 hA hS rfl (fun ac w hS hA => ?_)
  refine wpList_nil ?_
  have hS' := hS.pk 1
  exact fin _ _ (hA.sub _ rfl) (hS'.tail)

theorem catch_idle {g : Nat} {w : World} :
    CallsD Try.prog 39 #[.pointer (some ⟨g, 0, none⟩)] .returning w fun e u' w' => e = .returned (.tuple #[]) ∧ u' = .returning ∧ w' = w := by
  refine callsD_of_wpS Try.func39 rfl fun c₀ cs hu => ?_
  apply wpS_seq
  apply wpS_region
  simp only [List.size_toArray, List.length_cons, List.length_nil, Nat.zero_add]
  rw [show List.range (1 + 1) = [0, 1] from rfl]
  simp [wpOpsS, go_sem, recoverD, hu, Try.ntmps39, Exit.thenS]
  generalize hac : ({ tmps := _, defers := _ } : Act) = ac
  have hA : FR 15 [] ac [(0, .pointer (some ⟨g, 0, none⟩)), (1, .nilIface)] := by
    subst hac
    refine ⟨by simp, rfl, fun t v hv => ?_⟩
    simp only [lk] at hv
    by_cases e0 : t = 0
    · subst e0; cases hv; rfl
    by_cases e1 : t = 1
    · subst e1; cases hv; rfl
    · exfalso
      rw [show Nat.beq 0 t = false by cases h : Nat.beq 0 t; rfl; exact absurd (Nat.eq_of_beq_eq_true h).symm e0, show Nat.beq 1 t = false by cases h : Nat.beq 1 t; rfl; exact absurd (Nat.eq_of_beq_eq_true h).symm e1] at hv
      cases hv
  clear hac
  refine wpS_of_wp ?_
  refine wp_seq_k fun K1 h1 => ?_
  refine wp_reg ?_
  refine x_move hA (fun ac hA => ?_)
  refine x_val (v := .bool false) hA (r_neNilIf Try.underlying20 rfl (hA.ev rfl)) (fun ac hA => ?_)
  refine wpList_nil ?_
  refine h1 _ _ ?_
  refine c_f (b := false) rfl hA ?_
  refine wp_skip ?_
  refine ⟨hA.defers, c₀.mode, rfl, _, results_none Try.results39 _ _ _, rfl, hu, rfl⟩

theorem results_bool {r : World} {L : List HP} {w : World} {g : Nat} {b : Bool} {a : Act} {n : Nat} {D : List Deferred} {F : List (Nat × Value)} (hA : FR n D a F) (h1 : lk F 4 = some (.pointer (some ⟨g, 0, none⟩))) (hS : SH r (blk g 4 [.bool b] :: L) w) :
    (results Try.f11 a.tmps).run Try.prog w = .ok (.bool b) w := by
  have e1 : a.tmps.getD 4 undef = .pointer (some ⟨g, 0, none⟩) := hA.ev (x := .tmp 4) h1
  have e1' : a.tmps[4]?.getD undef = .pointer (some ⟨g, 0, none⟩) := by rw [← Array.getD_eq_getD_getElem?]; exact e1
  have hc := hS.cell 0 rfl 0 (.bool b) rfl
  have hagg : (isAgg 4).run Try.prog w = .ok false w := by rw [run_isAgg_flat Try.underlying4]; rfl
  have hld : (loadVar 4 ⟨g, 0, none⟩).run Try.prog w = .ok (.bool b) w := by simp [loadVar, hagg, hc]
  simp [results, Try.results11, e1', asAddr, hld]

section
variable {r : World} {L L1 : List HP} {w : World} {A : Option Addr} {n c f : Nat} {fs caps : Array Value}
/-- the walk up to the call, and from there on -/
theorem try_walk {R : Value → World → Prop} (hf : EN Try.prog f) (hS : SH r L w)
    (hret : ∀ g g4 w1, SH r (blk g 72 [.slice A n c] :: blk g4 4 [.bool false] :: L) w1 →
      (Ret Try.prog f (fs ++ #[.pointer (some ⟨g, 0, none⟩)] ++ caps) w1 fun v w2 => ∃ A' n' c', SH r (blk g 72 [.slice A' n' c'] :: blk g4 4 [.bool false] :: L1) w2 ∧ ∀ w3, SH r L1 w3 → R (.bool ((n' : Int) == 0)) w3) ∨
      (Calls Try.prog f (fs ++ #[.pointer (some ⟨g, 0, none⟩)] ++ caps) w1 fun e w2 => e = .panicked badC ∧ SH r (blk g4 4 [.bool false] :: L1) w2 ∧ ∀ w3, SH r L1 w3 → R (.bool false) w3)) :
    Ret Try.prog 11 #[.slice A n c, .func (.func f) fs caps] w R := by
  refine enterD Try.func11 rfl Try.ntmps11 [(0, .slice A n c), (1, .func (.func f) fs caps)] rfl (by simp) ?_
  intro ac hA
  refine wp_seq_k fun K0 h0 => ?_
  refine wp_reg ?_
  refine x_alloc (cs := [.bool false]) zr4 hA hS (fun g4 ac w hS hA => ?_)
  refine wpList_nil ?_
  refine h0 _ _ ?_
  refine wp_seq_k fun K1 h1 => ?_
  refine wp_reg ?_
  refine x_val hA (r_makeFunc rfl (mapev (vals := #[]) hA rfl) (mapev (vals := #[.pointer (some ⟨g4, 0, none⟩)]) hA rfl)) (fun ac hA => ?_)
  refine x_defer (vs := #[]) hA (fun ac hA => ?_)
  refine wpList_nil ?_
  refine h1 _ _ ?_
  refine wp_seq_k fun K2 h2 => ?_
  refine wp_reg ?_
  refine x_move hA (fun ac hA => ?_)
  refine x_val (v := .agg #[.slice A n c]) hA (r_build (ps := #[(0, .slice A n c)]) rfl (mapev2 hA rfl) (fun w => by kernel_rfl)) (fun ac hA => ?_)
  refine x_box hA hS (fun g ac w hS hA => ?_)
  refine x_assign hA (fun ac hA => ?_)
  refine wpList_nil ?_
  refine h2 _ _ ?_
  refine wp_seq_k fun K3 h3 => ?_
  refine wp_reg ?_
  refine x_move hA (fun ac hA => ?_)
  refine x_move hA (fun ac hA => ?_)
  rcases hret g g4 w hS with hr | hp
  · refine x_callw (vs := #[.pointer (some ⟨g, 0, none⟩)]) hf hA hr (fun v ac w hR hA => ?_)
    obtain ⟨A', n', c', hS, hR⟩ := hR
    refine wpList_nil ?_
    refine h3 _ _ ?_
    refine wp_seq_k fun K4 h4 => ?_
    refine wp_reg ?_
    refine x_move hA (fun ac hA => ?_)
    refine x_val hA (r_nilCheck rfl (hA.ev rfl)) (fun ac hA => ?_)
    refine x_fab fa72_0 hA (fun ac hA => ?_)
    refine x_ld Try.underlying22 (hS.cell 0 rfl 0 _ rfl) hA (fun ac hA => ?_)
    refine x_val hA (r_len Try.underlying22 rfl (hA.ev rfl)) (fun ac hA => ?_)
    refine x_val hA (r_eqI rfl (hA.ev rfl) (hA.ev rfl)) (fun ac hA => ?_)
    refine x_stb (vs := [.bool ((n' : Int) == 0)]) 1 sz4 hA hS rfl (fun ac w hS hA => ?_)
    refine wpList_nil ?_
    refine h4 _ _ ?_
    refine wp_ret ?_
    show Leaves _ _ _ _ _ _ _
    rw [hA.defers]
    refine leaves_cons (f := 39) (args := #[.pointer (some ⟨g4, 0, none⟩)]) (by simp) (by simp [invoke, (en39 _ _ : _ = _)]) ?_
    refine CallsD.mono catch_idle ?_
    rintro e u' w' ⟨rfl, rfl, rfl⟩
    exact ⟨_, results_bool hA rfl hS, _, rfl, hR _ (hS.tail.tail)⟩
  · refine x_callp (vs := #[.pointer (some ⟨g, 0, none⟩)]) hf hA hp (fun w hR => ?_)
    obtain ⟨hS, hR⟩ := hR
    show Leaves _ _ _ _ _ _ _
    rw [hA.defers]
    refine leaves_cons (f := 39) (args := #[.pointer (some ⟨g4, 0, none⟩)]) (by simp) (by simp [invoke, (en39 _ _ : _ = _)]) ?_
    refine CallsD.mono (catch_pan hS) ?_
    rintro e u' w' ⟨rfl, rfl, hS⟩
    exact ⟨_, results_bool hA rfl hS, _, rfl, hR _ hS.tail⟩
end
end Go.Proofs.Ythokgnonmcgkcaa.M
