/- The calls come to the plain functions. -/
import Derived.Test.YtgjhiojkkjaloaaMe
import Derived.Test.YtgjhiojkkjaloaaEn
import Derived.Test.YtgjhiojkkjaloaaDc
namespace Go.Proofs.Ytgjhiojkkjaloaa.M
open Go Go.RowKit Go.Proofs.Ytgjhiojkkjaloaa.E
set_option linter.unusedVariables false
set_option linter.unusedSimpArgs false

set_option maxHeartbeats 4000000 in
theorem F_r05_Form {r : World} {L : List HP} {w : World} (a0 : (List UInt8)) {y : (Bool)} (hF : r05_Form a0 = some y) (hS : SH r (L) w) :
    Ret Try.prog 33 #[str a0] w fun v w' => v = .bool y ∧ SH r (L) w' := by
  refine enter Try.func33 rfl Try.ntmps33 [(0, str a0)] rfl (by simp) ?_
  intro ac hA Qf hQ hQn
  unfold r05_Form at hF
  refine wp_seq_k fun K101 hK101 => ?_
  refine wp_reg ?_
  refine x_assign hA (fun ac hA => ?_) rfl rfl rfl rfl rfl
  refine wpList_nil ?_
  refine hK101 _ _ ?_
  refine wp_seq_k fun K102 hK102 => ?_
  refine wp_seq_k fun K264 hK264 => ?_
  refine wp_reg ?_
  refine x_assign hA (fun ac hA => ?_) rfl rfl rfl rfl rfl
  refine wpList_nil ?_
  refine hK264 _ _ ?_
  refine wp_block_k fun Kx265 hKx265 => ?_
  have hb1 : r05_Form_b1 a0 = some y → ∀ (ac : Act) (w : World), FR 41 [] ac [(0, str a0)] → SH r (L) w → Kx265 ac w := by
    intro hF ac w hA hS
    unfold r05_Form_b1 at hF
    refine hKx265 _ _ ?_
    refine hK102 _ _ ?_
    refine wp_seq_k fun K345 hK345 => ?_
    refine wp_reg ?_
    refine x_move hA (fun ac hA => ?_) rfl rfl rfl rfl rfl
    refine x_val hA (r_lenS Try.underlying9 rfl (hA.ev rfl)) (fun ac hA => ?_) rfl rfl rfl
    refine x_val hA (r_geI rfl (hA.ev rfl) (hA.ev rfl)) (fun ac hA => ?_) rfl rfl rfl
    refine x_move hA (fun ac hA => ?_) rfl rfl rfl rfl rfl
    refine bcase (b := decide (1 ≤ (a0.length : Int))) (fun hb346 => ?_) fun hb346 => ?_
    · replace hF := ift hb346 hF
      refine x_on hb346 hA ?_ rfl rfl rfl
      refine x_move hA (fun ac hA => ?_) rfl rfl rfl rfl rfl
      refine x_on hb346 hA ?_ rfl rfl rfl
      refine x_val hA (r_lenS Try.underlying9 rfl (hA.ev rfl)) (fun ac hA => ?_) rfl rfl rfl
      refine x_on hb346 hA ?_ rfl rfl rfl
      refine x_val hA (r_leI rfl (hA.ev rfl) (hA.ev rfl)) (fun ac hA => ?_) rfl rfl rfl
      refine x_pickt hb346 hA (fun ac hA => ?_) rfl rfl rfl rfl rfl rfl
      refine x_assign hA (fun ac hA => ?_) rfl rfl rfl rfl rfl
      refine wpList_nil ?_
      refine hK345 _ _ ?_
      refine wp_ret ?_
      cases hF
      refine hQ _ _ ?_
      refine lv Try.results33 hA rfl ?_
      exact ⟨rfl, hS⟩
    replace hF := iff' hb346 hF
    refine x_off hb346 hA (fun ac hA => ?_) rfl rfl rfl rfl rfl
    refine x_off hb346 hA (fun ac hA => ?_) rfl rfl rfl rfl rfl
    refine x_off hb346 hA (fun ac hA => ?_) rfl rfl rfl rfl rfl
    refine x_pickf hb346 hA (fun ac hA => ?_) rfl rfl rfl rfl rfl rfl
    refine x_assign hA (fun ac hA => ?_) rfl rfl rfl rfl rfl
    refine wpList_nil ?_
    refine hK345 _ _ ?_
    refine wp_ret ?_
    cases hF
    refine hQ _ _ ?_
    refine lv Try.results33 hA rfl ?_
    exact ⟨rfl, hS⟩
  obtain ⟨t399, hl399, hF⟩ := bnd hF
  have hR399 := hF
  have hx399_0 : (.inl ()) = t399 → ∀ (ac : Act) (w : World), FR 41 [] ac [(0, str a0)] → SH r (L) w → Kx265 ac w := by
    intro ht ac w hA hS
    subst ht
    replace hF : r05_Form_x1_0 a0 = some y := hF
    unfold r05_Form_x1_0 at hF
    exact hb1 hF ac w (hA.sub _ rfl) hS
  refine wp_loop_fn hl399 (fun s ac w => FR 41 [] ac [(0, str a0), (3, .int .i64 s)] ∧ SH r (L) w) ⟨hA.sub _ rfl, hS⟩ ?_
  intro N399 s399 o399 hF N399_ T399_ ac w hLab
  obtain ⟨x373, rfl⟩ : ∃ q, q = s399 := ⟨_, rfl⟩
  replace hF : r05_Form_l1 a0 x373 = some o399 := hF
  unfold r05_Form_l1 at hF
  try dsimp only at hLab
  obtain ⟨hA, hS⟩ := hLab
  refine wp_seq_k fun K401 hK401 => ?_
  refine wp_seq_k fun K402 hK402 => ?_
  refine wp_reg ?_
  refine x_move hA (fun ac hA => ?_) rfl rfl rfl rfl rfl
  refine x_move hA (fun ac hA => ?_) rfl rfl rfl rfl rfl
  refine x_val hA (r_lenS Try.underlying9 rfl (hA.ev rfl)) (fun ac hA => ?_) rfl rfl rfl
  refine x_val hA (r_ltI rfl (hA.ev rfl) (hA.ev rfl)) (fun ac hA => ?_) rfl rfl rfl
  refine wpList_nil ?_
  refine hK402 _ _ ?_
  refine c_if hA rfl (fun hb403 => ?_) fun hb403 => ?_
  · replace hF := ift hb403 hF
    refine wp_skip ?_
    refine hK401 _ _ ?_
    refine wp_seq_k fun K404 hK404 => ?_
    refine wp_block_k fun Kx405 hKx405 => ?_
    refine wp_seq_k fun K406 hK406 => ?_
    refine wp_reg ?_
    refine x_move hA (fun ac hA => ?_) rfl rfl rfl rfl rfl
    refine x_move hA (fun ac hA => ?_) rfl rfl rfl rfl rfl
    obtain ⟨x407, h408, hF⟩ := bnd hF
    refine x_val hA (r_indexS Try.underlying9 rfl (hA.ev rfl) (hA.ev rfl) (at_some h408).1 (at_some h408).2.2) (fun ac hA => ?_) rfl rfl rfl
    refine x_assign hA (fun ac hA => ?_) rfl rfl rfl rfl rfl
    refine wpList_nil ?_
    refine hK406 _ _ ?_
    refine wp_seq_k fun K409 hK409 => ?_
    have hj1 : ∀ (b415 : Bool), r05_Form_j1 x373 b415 = some o399 → ∀ (ac : Act) (w : World), FR 41 [] ac [(0, str a0), (3, .int .i64 x373), (32, .bool b415)] → SH r (L) w → K409 ac w := by
      intro b415 hF ac w hA hS
      unfold r05_Form_j1 at hF
      refine hK409 _ _ ?_
      refine c_if hA rfl (fun hb416 => ?_) fun hb416 => ?_
      · replace hF := ift hb416 hF
        refine wp_seq_k fun K417 hK417 => ?_
        refine wp_reg ?_
        refine x_assign hA (fun ac hA => ?_) rfl rfl rfl rfl rfl
        refine wpList_nil ?_
        refine hK417 _ _ ?_
        refine wp_ret ?_
        cases hF
        have ht := T399_ _ rfl
        subst ht
        replace hF := hR399
        replace hF : some false = some y := hF
        cases hF
        refine hQ _ _ ?_
        refine lv Try.results33 hA rfl ?_
        exact ⟨rfl, hS⟩
      replace hF := iff' hb416 hF
      refine wp_skip ?_
      refine hKx405 _ _ ?_
      refine hK404 _ _ ?_
      refine wp_reg ?_
      refine x_move hA (fun ac hA => ?_) rfl rfl rfl rfl rfl
      obtain ⟨x418, h419, hF⟩ := ltt_ hF
      refine x_val (v := .int .i64 x418) hA (rv_i h419 (r_add rfl (hA.ev rfl) (hA.ev rfl))) (fun ac hA => ?_) rfl rfl rfl
      refine x_assign hA (fun ac hA => ?_) rfl rfl rfl rfl rfl
      refine wpList_nil ?_
      cases hF
      exact ⟨_, N399_ _ rfl, hA.sub _ rfl, hS⟩
    refine wp_reg ?_
    refine x_move hA (fun ac hA => ?_) rfl rfl rfl rfl rfl
    refine x_val hA (r_eqI rfl (hA.ev rfl) (hA.ev rfl)) (fun ac hA => ?_) rfl rfl rfl
    refine x_move hA (fun ac hA => ?_) rfl rfl rfl rfl rfl
    refine bcase (b := (x407.toNat : Int) == 46) (fun hb420 => ?_) fun hb420 => ?_
    · replace hF := ift hb420 hF
      refine x_off hb420 hA (fun ac hA => ?_) rfl rfl rfl rfl rfl
      refine x_off hb420 hA (fun ac hA => ?_) rfl rfl rfl rfl rfl
      refine x_off hb420 hA (fun ac hA => ?_) rfl rfl rfl rfl rfl
      refine x_offU hA (fun ac hA => ?_) rfl rfl rfl rfl rfl
      refine x_offU hA (fun ac hA => ?_) rfl rfl rfl rfl rfl
      refine x_off hb420 hA (fun ac hA => ?_) rfl rfl rfl rfl rfl
      refine x_pickt hb420 hA (fun ac hA => ?_) rfl rfl rfl rfl rfl rfl
      refine x_move hA (fun ac hA => ?_) rfl rfl rfl rfl rfl
      refine x_off rfl hA (fun ac hA => ?_) rfl rfl rfl rfl rfl
      refine x_off rfl hA (fun ac hA => ?_) rfl rfl rfl rfl rfl
      refine x_off rfl hA (fun ac hA => ?_) rfl rfl rfl rfl rfl
      refine x_offU hA (fun ac hA => ?_) rfl rfl rfl rfl rfl
      refine x_offU hA (fun ac hA => ?_) rfl rfl rfl rfl rfl
      refine x_off rfl hA (fun ac hA => ?_) rfl rfl rfl rfl rfl
      refine x_pickt rfl hA (fun ac hA => ?_) rfl rfl rfl rfl rfl rfl
      refine x_val hA (r_not rfl (hA.ev rfl)) (fun ac hA => ?_) rfl rfl rfl
      refine wpList_nil ?_
      exact hj1 false hF ac w (hA.sub _ rfl) hS
    replace hF := iff' hb420 hF
    refine x_on hb420 hA ?_ rfl rfl rfl
    refine x_move hA (fun ac hA => ?_) rfl rfl rfl rfl rfl
    refine x_on hb420 hA ?_ rfl rfl rfl
    refine x_val hA (r_geI rfl (hA.ev rfl) (hA.ev rfl)) (fun ac hA => ?_) rfl rfl rfl
    refine x_on hb420 hA ?_ rfl rfl rfl
    refine x_move hA (fun ac hA => ?_) rfl rfl rfl rfl rfl
    refine bcase (b := decide (48 ≤ (x407.toNat : Int))) (fun hb421 => ?_) fun hb421 => ?_
    · replace hF := ift hb421 hF
      refine x_on hb421 hA ?_ rfl rfl rfl
      refine x_move hA (fun ac hA => ?_) rfl rfl rfl rfl rfl
      refine x_on hb421 hA ?_ rfl rfl rfl
      refine x_val hA (r_leI rfl (hA.ev rfl) (hA.ev rfl)) (fun ac hA => ?_) rfl rfl rfl
      refine x_on hb420 hA ?_ rfl rfl rfl
      refine x_pickt hb421 hA (fun ac hA => ?_) rfl rfl rfl rfl rfl rfl
      refine x_pickf hb420 hA (fun ac hA => ?_) rfl rfl rfl rfl rfl rfl
      refine x_move hA (fun ac hA => ?_) rfl rfl rfl rfl rfl
      refine bcase (b := decide ((x407.toNat : Int) ≤ 57)) (fun hb422 => ?_) fun hb422 => ?_
      · replace hF := ift hb422 hF
        refine x_off hb422 hA (fun ac hA => ?_) rfl rfl rfl rfl rfl
        refine x_off hb422 hA (fun ac hA => ?_) rfl rfl rfl rfl rfl
        refine x_off hb422 hA (fun ac hA => ?_) rfl rfl rfl rfl rfl
        refine x_offU hA (fun ac hA => ?_) rfl rfl rfl rfl rfl
        refine x_offU hA (fun ac hA => ?_) rfl rfl rfl rfl rfl
        refine x_off hb422 hA (fun ac hA => ?_) rfl rfl rfl rfl rfl
        refine x_pickt hb422 hA (fun ac hA => ?_) rfl rfl rfl rfl rfl rfl
        refine x_val hA (r_not rfl (hA.ev rfl)) (fun ac hA => ?_) rfl rfl rfl
        refine wpList_nil ?_
        exact hj1 false hF ac w (hA.sub _ rfl) hS
      replace hF := iff' hb422 hF
      refine x_on hb422 hA ?_ rfl rfl rfl
      refine x_move hA (fun ac hA => ?_) rfl rfl rfl rfl rfl
      refine x_on hb422 hA ?_ rfl rfl rfl
      refine x_val hA (r_geI rfl (hA.ev rfl) (hA.ev rfl)) (fun ac hA => ?_) rfl rfl rfl
      refine x_on hb422 hA ?_ rfl rfl rfl
      refine x_move hA (fun ac hA => ?_) rfl rfl rfl rfl rfl
      refine bcase (b := decide (97 ≤ (x407.toNat : Int))) (fun hb423 => ?_) fun hb423 => ?_
      · replace hF := ift hb423 hF
        refine x_on hb423 hA ?_ rfl rfl rfl
        refine x_move hA (fun ac hA => ?_) rfl rfl rfl rfl rfl
        refine x_on hb423 hA ?_ rfl rfl rfl
        refine x_val hA (r_leI rfl (hA.ev rfl) (hA.ev rfl)) (fun ac hA => ?_) rfl rfl rfl
        refine x_on hb422 hA ?_ rfl rfl rfl
        refine x_pickt hb423 hA (fun ac hA => ?_) rfl rfl rfl rfl rfl rfl
        refine x_pickf hb422 hA (fun ac hA => ?_) rfl rfl rfl rfl rfl rfl
        refine x_val hA (r_not rfl (hA.ev rfl)) (fun ac hA => ?_) rfl rfl rfl
        refine wpList_nil ?_
        exact hj1 (!(decide ((x407.toNat : Int) ≤ 122))) hF ac w (hA.sub _ rfl) hS
      replace hF := iff' hb423 hF
      refine x_off hb423 hA (fun ac hA => ?_) rfl rfl rfl rfl rfl
      refine x_off hb423 hA (fun ac hA => ?_) rfl rfl rfl rfl rfl
      refine x_on hb422 hA ?_ rfl rfl rfl
      refine x_pickf hb423 hA (fun ac hA => ?_) rfl rfl rfl rfl rfl rfl
      refine x_pickf hb422 hA (fun ac hA => ?_) rfl rfl rfl rfl rfl rfl
      refine x_val hA (r_not rfl (hA.ev rfl)) (fun ac hA => ?_) rfl rfl rfl
      refine wpList_nil ?_
      exact hj1 true hF ac w (hA.sub _ rfl) hS
    replace hF := iff' hb421 hF
    refine x_off hb421 hA (fun ac hA => ?_) rfl rfl rfl rfl rfl
    refine x_off hb421 hA (fun ac hA => ?_) rfl rfl rfl rfl rfl
    refine x_on hb420 hA ?_ rfl rfl rfl
    refine x_pickf hb421 hA (fun ac hA => ?_) rfl rfl rfl rfl rfl rfl
    refine x_pickf hb420 hA (fun ac hA => ?_) rfl rfl rfl rfl rfl rfl
    refine x_move hA (fun ac hA => ?_) rfl rfl rfl rfl rfl
    refine x_on rfl hA ?_ rfl rfl rfl
    refine x_move hA (fun ac hA => ?_) rfl rfl rfl rfl rfl
    refine x_on rfl hA ?_ rfl rfl rfl
    refine x_val hA (r_geI rfl (hA.ev rfl) (hA.ev rfl)) (fun ac hA => ?_) rfl rfl rfl
    refine x_on rfl hA ?_ rfl rfl rfl
    refine x_move hA (fun ac hA => ?_) rfl rfl rfl rfl rfl
    refine bcase (b := decide (97 ≤ (x407.toNat : Int))) (fun hb424 => ?_) fun hb424 => ?_
    · replace hF := ift hb424 hF
      refine x_on hb424 hA ?_ rfl rfl rfl
      refine x_move hA (fun ac hA => ?_) rfl rfl rfl rfl rfl
      refine x_on hb424 hA ?_ rfl rfl rfl
      refine x_val hA (r_leI rfl (hA.ev rfl) (hA.ev rfl)) (fun ac hA => ?_) rfl rfl rfl
      refine x_on rfl hA ?_ rfl rfl rfl
      refine x_pickt hb424 hA (fun ac hA => ?_) rfl rfl rfl rfl rfl rfl
      refine x_pickf rfl hA (fun ac hA => ?_) rfl rfl rfl rfl rfl rfl
      refine x_val hA (r_not rfl (hA.ev rfl)) (fun ac hA => ?_) rfl rfl rfl
      refine wpList_nil ?_
      exact hj1 (!(decide ((x407.toNat : Int) ≤ 122))) hF ac w (hA.sub _ rfl) hS
    replace hF := iff' hb424 hF
    refine x_off hb424 hA (fun ac hA => ?_) rfl rfl rfl rfl rfl
    refine x_off hb424 hA (fun ac hA => ?_) rfl rfl rfl rfl rfl
    refine x_on rfl hA ?_ rfl rfl rfl
    refine x_pickf hb424 hA (fun ac hA => ?_) rfl rfl rfl rfl rfl rfl
    refine x_pickf rfl hA (fun ac hA => ?_) rfl rfl rfl rfl rfl rfl
    refine x_val hA (r_not rfl (hA.ev rfl)) (fun ac hA => ?_) rfl rfl rfl
    refine wpList_nil ?_
    exact hj1 true hF ac w (hA.sub _ rfl) hS
  replace hF := iff' hb403 hF
  refine wp_exit ?_
  cases hF
  exact hx399_0 (T399_ _ rfl) ac w (hA.sub _ rfl) hS

set_option maxHeartbeats 4000000 in
theorem F_r05_Store_begin {r : World} {L : List HP} {w : World} (a0 : S53) (g0 : Nat) {y : (Int × S53)} (hF : r05_Store_begin a0 = some y) (hS : SH r (obj53 g0 a0 :: L) w) :
    Ret Try.prog 45 #[.pointer (some ⟨g0, 0, none⟩)] w fun v w' => v = .int .i64 y.1 ∧ SH r (obj53 g0 y.2 :: L) w' := by
  refine enter Try.func45 rfl Try.ntmps45 [(0, .pointer (some ⟨g0, 0, none⟩))] rfl (by simp) ?_
  intro ac hA Qf hQ hQn
  unfold r05_Store_begin at hF
  obtain ⟨A101, n102, c103, hS⟩ := obj53_open hS
  refine wp_seq_k fun K104 hK104 => ?_
  refine wp_reg ?_
  refine x_assign hA (fun ac hA => ?_) rfl rfl rfl rfl rfl
  refine wpList_nil ?_
  refine hK104 _ _ ?_
  refine wp_seq_k fun K105 hK105 => ?_
  refine wp_reg ?_
  refine x_move hA (fun ac hA => ?_) rfl rfl rfl rfl rfl
  refine x_val hA (r_nilCheck rfl (hA.ev rfl)) (fun ac hA => ?_) rfl rfl rfl
  refine x_fab fa53_4 hA (fun ac hA => ?_) rfl rfl rfl rfl rfl
  refine x_ld Try.underlying3 (hS.cell 0 rfl 4 _ rfl) hA (fun ac hA => ?_) rfl rfl rfl rfl rfl rfl
  obtain ⟨x106, h107, hF⟩ := ltt_ hF
  refine x_val (v := .int .i64 x106) hA (rv_i h107 (r_add rfl (hA.ev rfl) (hA.ev rfl))) (fun ac hA => ?_) rfl rfl rfl
  refine x_val hA (r_nilCheck rfl (hA.ev rfl)) (fun ac hA => ?_) rfl rfl rfl
  refine x_fab fa53_4 hA (fun ac hA => ?_) rfl rfl rfl rfl rfl
  refine x_stb 0 sz3 hA hS rfl (fun  ac w hS hA => ?_) rfl rfl rfl rfl rfl rfl rfl rfl
  refine wpList_nil ?_
  refine hK105 _ _ ?_
  refine wp_seq_k fun K108 hK108 => ?_
  have hj1 : ∀ (x114 : Int) (b115 : Bool), r05_Store_begin_j1 a0 x106 x114 b115 = some y → ∀ (ac : Act) (w : World), FR 34 [] ac [(0, .pointer (some ⟨g0, 0, none⟩))] → SH r (blk g0 53 [.slice A101 n102 c103, .int .i64 a0.f1, .int .i64 x114, .bool b115, .int .i64 x106] :: own k62 62 A101 n102 c103 a0.f0 :: L) w → K108 ac w := by
    intro x114 b115 hF ac w hA hS
    unfold r05_Store_begin_j1 at hF
    refine hK108 _ _ ?_
    refine wp_seq_k fun K116 hK116 => ?_
    refine wp_seq_k fun K117 hK117 => ?_
    refine wp_reg ?_
    refine x_move hA (fun ac hA => ?_) rfl rfl rfl rfl rfl
    refine x_val hA (r_nilCheck rfl (hA.ev rfl)) (fun ac hA => ?_) rfl rfl rfl
    refine x_fab fa53_3 hA (fun ac hA => ?_) rfl rfl rfl rfl rfl
    refine x_ld Try.underlying4 (hS.cell 0 rfl 3 _ rfl) hA (fun ac hA => ?_) rfl rfl rfl rfl rfl rfl
    refine wpList_nil ?_
    refine hK117 _ _ ?_
    refine c_if hA rfl (fun hb118 => ?_) fun hb118 => ?_
    · replace hF := ift hb118 hF
      refine wp_seq_k fun K119 hK119 => ?_
      refine wp_reg ?_
      refine x_assign hA (fun ac hA => ?_) rfl rfl rfl rfl rfl
      refine wpList_nil ?_
      refine hK119 _ _ ?_
      refine wp_ret ?_
      replace hS := hS.pk 1
      replace hS := hS.pk 1
      replace hS := obj53_mk (x := (⟨a0.f0, a0.f1, x114, b115, x106⟩ : S53)) hS
      cases hF
      refine hQ _ _ ?_
      refine lv Try.results45 hA rfl ?_
      exact ⟨rfl, hS⟩
    replace hF := iff' hb118 hF
    refine wp_skip ?_
    refine hK116 _ _ ?_
    refine wp_seq_k fun K120 hK120 => ?_
    refine wp_reg ?_
    refine x_assign hA (fun ac hA => ?_) rfl rfl rfl rfl rfl
    refine wpList_nil ?_
    refine hK120 _ _ ?_
    refine wp_ret ?_
    replace hS := hS.pk 1
    replace hS := hS.pk 1
    replace hS := obj53_mk (x := (⟨a0.f0, a0.f1, x114, b115, x106⟩ : S53)) hS
    cases hF
    refine hQ _ _ ?_
    refine lv Try.results45 hA rfl ?_
    exact ⟨rfl, hS⟩
  refine wp_seq_k fun K121 hK121 => ?_
  refine wp_reg ?_
  refine x_move hA (fun ac hA => ?_) rfl rfl rfl rfl rfl
  refine x_val hA (r_nilCheck rfl (hA.ev rfl)) (fun ac hA => ?_) rfl rfl rfl
  refine x_fab fa53_2 hA (fun ac hA => ?_) rfl rfl rfl rfl rfl
  refine x_ld Try.underlying3 (hS.cell 0 rfl 2 _ rfl) hA (fun ac hA => ?_) rfl rfl rfl rfl rfl rfl
  refine x_val hA (r_gtI rfl (hA.ev rfl) (hA.ev rfl)) (fun ac hA => ?_) rfl rfl rfl
  refine wpList_nil ?_
  refine hK121 _ _ ?_
  refine c_if hA rfl (fun hb122 => ?_) fun hb122 => ?_
  · replace hF := ift hb122 hF
    refine wp_seq_k fun K123 hK123 => ?_
    refine wp_reg ?_
    refine x_move hA (fun ac hA => ?_) rfl rfl rfl rfl rfl
    refine x_val hA (r_nilCheck rfl (hA.ev rfl)) (fun ac hA => ?_) rfl rfl rfl
    refine x_fab fa53_2 hA (fun ac hA => ?_) rfl rfl rfl rfl rfl
    refine x_ld Try.underlying3 (hS.cell 0 rfl 2 _ rfl) hA (fun ac hA => ?_) rfl rfl rfl rfl rfl rfl
    obtain ⟨x124, h125, hF⟩ := ltt_ hF
    refine x_val (v := .int .i64 x124) hA (rv_i h125 (r_sub rfl (hA.ev rfl) (hA.ev rfl))) (fun ac hA => ?_) rfl rfl rfl
    refine x_val hA (r_nilCheck rfl (hA.ev rfl)) (fun ac hA => ?_) rfl rfl rfl
    refine x_fab fa53_2 hA (fun ac hA => ?_) rfl rfl rfl rfl rfl
    refine x_stb 0 sz3 hA hS rfl (fun  ac w hS hA => ?_) rfl rfl rfl rfl rfl rfl rfl rfl
    refine wpList_nil ?_
    refine hK123 _ _ ?_
    refine wp_reg ?_
    refine x_move hA (fun ac hA => ?_) rfl rfl rfl rfl rfl
    refine x_move hA (fun ac hA => ?_) rfl rfl rfl rfl rfl
    refine x_val hA (r_nilCheck rfl (hA.ev rfl)) (fun ac hA => ?_) rfl rfl rfl
    refine x_fab fa53_2 hA (fun ac hA => ?_) rfl rfl rfl rfl rfl
    refine x_ld Try.underlying3 (hS.cell 0 rfl 2 _ rfl) hA (fun ac hA => ?_) rfl rfl rfl rfl rfl rfl
    refine x_val hA (r_eqI rfl (hA.ev rfl) (hA.ev rfl)) (fun ac hA => ?_) rfl rfl rfl
    refine x_val hA (r_nilCheck rfl (hA.ev rfl)) (fun ac hA => ?_) rfl rfl rfl
    refine x_fab fa53_3 hA (fun ac hA => ?_) rfl rfl rfl rfl rfl
    refine x_stb 0 sz4 hA hS rfl (fun  ac w hS hA => ?_) rfl rfl rfl rfl rfl rfl rfl rfl
    refine wpList_nil ?_
    exact hj1 x124 (x124 == 0) hF ac w (hA.sub _ rfl) hS
  replace hF := iff' hb122 hF
  refine wp_skip ?_
  exact hj1 a0.f2 a0.f3 hF ac w (hA.sub _ rfl) hS

set_option maxHeartbeats 4000000 in
theorem F_r05_Store_at {r : World} {L : List HP} {w : World} (a0 : S53) (a1 : (List UInt8)) (g0 : Nat) (A0_0 : Option Addr) (n0_0 : Nat) (c0_0 : Nat) {y : (Int)} (hF : r05_Store_at a0 a1 = some y) (hS : SH r (blk g0 53 [.slice A0_0 n0_0 c0_0, .int .i64 a0.f1, .int .i64 a0.f2, .bool a0.f3, .int .i64 a0.f4] :: own k62 62 A0_0 n0_0 c0_0 a0.f0 :: L) w) :
    Ret Try.prog 47 #[.pointer (some ⟨g0, 0, none⟩), str a1] w fun v w' => v = .int .i64 y ∧ SH r (blk g0 53 [.slice A0_0 n0_0 c0_0, .int .i64 a0.f1, .int .i64 a0.f2, .bool a0.f3, .int .i64 a0.f4] :: own k62 62 A0_0 n0_0 c0_0 a0.f0 :: L) w' := by
  refine enter Try.func47 rfl Try.ntmps47 [(0, .pointer (some ⟨g0, 0, none⟩)), (1, str a1)] rfl (by simp) ?_
  intro ac hA Qf hQ hQn
  unfold r05_Store_at at hF
  refine wp_seq_k fun K101 hK101 => ?_
  refine wp_reg ?_
  refine x_assign hA (fun ac hA => ?_) rfl rfl rfl rfl rfl
  refine wpList_nil ?_
  refine hK101 _ _ ?_
  refine wp_seq_k fun K102 hK102 => ?_
  refine wp_seq_k fun K192 hK192 => ?_
  refine wp_reg ?_
  refine x_assign hA (fun ac hA => ?_) rfl rfl rfl rfl rfl
  refine wpList_nil ?_
  refine hK192 _ _ ?_
  refine wp_block_k fun Kx193 hKx193 => ?_
  have hb1 : r05_Store_at_b1 = some y → ∀ (ac : Act) (w : World), FR 26 [] ac [(0, .pointer (some ⟨g0, 0, none⟩))] → SH r (blk g0 53 [.slice A0_0 n0_0 c0_0, .int .i64 a0.f1, .int .i64 a0.f2, .bool a0.f3, .int .i64 a0.f4] :: own k62 62 A0_0 n0_0 c0_0 a0.f0 :: L) w → Kx193 ac w := by
    intro hF ac w hA hS
    unfold r05_Store_at_b1 at hF
    refine hKx193 _ _ ?_
    refine hK102 _ _ ?_
    refine wp_seq_k fun K237 hK237 => ?_
    refine wp_reg ?_
    refine x_assign hA (fun ac hA => ?_) rfl rfl rfl rfl rfl
    refine wpList_nil ?_
    refine hK237 _ _ ?_
    refine wp_ret ?_
    replace hS := hS.pk 1
    replace hS := hS.pk 1
    cases hF
    refine hQ _ _ ?_
    refine lv Try.results47 hA rfl ?_
    exact ⟨rfl, hS⟩
  obtain ⟨t266, hl266, hF⟩ := bnd hF
  have hR266 := hF
  have hx266_0 : (.inl ()) = t266 → ∀ (ac : Act) (w : World), FR 26 [] ac [(0, .pointer (some ⟨g0, 0, none⟩))] → SH r (blk g0 53 [.slice A0_0 n0_0 c0_0, .int .i64 a0.f1, .int .i64 a0.f2, .bool a0.f3, .int .i64 a0.f4] :: own k62 62 A0_0 n0_0 c0_0 a0.f0 :: L) w → Kx193 ac w := by
    intro ht ac w hA hS
    subst ht
    replace hF : r05_Store_at_x1_0 = some y := hF
    unfold r05_Store_at_x1_0 at hF
    exact hb1 hF ac w (hA.sub _ rfl) hS
  refine wp_loop_fn hl266 (fun s ac w => FR 26 [] ac [(0, .pointer (some ⟨g0, 0, none⟩)), (1, str a1), (5, .int .i64 s)] ∧ SH r (blk g0 53 [.slice A0_0 n0_0 c0_0, .int .i64 a0.f1, .int .i64 a0.f2, .bool a0.f3, .int .i64 a0.f4] :: own k62 62 A0_0 n0_0 c0_0 a0.f0 :: L) w) ⟨hA.sub _ rfl, hS⟩ ?_
  intro N266 s266 o266 hF N266_ T266_ ac w hLab
  obtain ⟨x252, rfl⟩ : ∃ q, q = s266 := ⟨_, rfl⟩
  replace hF : r05_Store_at_l1 a0 a1 x252 = some o266 := hF
  unfold r05_Store_at_l1 at hF
  try dsimp only at hLab
  obtain ⟨hA, hS⟩ := hLab
  refine wp_seq_k fun K268 hK268 => ?_
  refine wp_seq_k fun K269 hK269 => ?_
  refine wp_reg ?_
  refine x_move hA (fun ac hA => ?_) rfl rfl rfl rfl rfl
  refine x_move hA (fun ac hA => ?_) rfl rfl rfl rfl rfl
  refine x_val hA (r_nilCheck rfl (hA.ev rfl)) (fun ac hA => ?_) rfl rfl rfl
  refine x_fab fa53_0 hA (fun ac hA => ?_) rfl rfl rfl rfl rfl
  refine x_ld Try.underlying51 (hS.cell 0 rfl 0 _ rfl) hA (fun ac hA => ?_) rfl rfl rfl rfl rfl rfl
  refine x_len Try.underlying51 (hS.rd 1 rfl).2.1 hA (fun ac hA => ?_) rfl rfl rfl rfl rfl
  refine x_val hA (r_ltI rfl (hA.ev rfl) (hA.ev rfl)) (fun ac hA => ?_) rfl rfl rfl
  refine wpList_nil ?_
  refine hK269 _ _ ?_
  refine c_if hA rfl (fun hb270 => ?_) fun hb270 => ?_
  · replace hF := ift hb270 hF
    refine wp_skip ?_
    refine hK268 _ _ ?_
    refine wp_seq_k fun K271 hK271 => ?_
    refine wp_block_k fun Kx272 hKx272 => ?_
    refine wp_seq_k fun K273 hK273 => ?_
    refine wp_reg ?_
    refine x_move hA (fun ac hA => ?_) rfl rfl rfl rfl rfl
    refine x_val hA (r_nilCheck rfl (hA.ev rfl)) (fun ac hA => ?_) rfl rfl rfl
    refine x_fab fa53_0 hA (fun ac hA => ?_) rfl rfl rfl rfl rfl
    refine x_ld Try.underlying51 (hS.cell 0 rfl 0 _ rfl) hA (fun ac hA => ?_) rfl rfl rfl rfl rfl rfl
    refine x_move hA (fun ac hA => ?_) rfl rfl rfl rfl rfl
    obtain ⟨x274, h275, hF⟩ := bnd hF
    refine x_ia Try.underlying51 sz62 (hS.rd 1 rfl) h275 hA (fun ac hA => ?_) rfl rfl rfl rfl rfl rfl
    refine x_fae (m := x252.toNat * 3) fa62_0 hA (fun ac hA => ?_) rfl rfl rfl rfl rfl
    obtain ⟨cs, hV, hc276⟩ := el (hS.rd 1 rfl) h275
    obtain rfl := hV
    refine x_ld Try.underlying9 (hc276 0 _ rfl) hA (fun ac hA => ?_) rfl rfl rfl rfl rfl rfl
    refine x_move hA (fun ac hA => ?_) rfl rfl rfl rfl rfl
    refine x_val hA (r_eqS rfl (hA.ev rfl) (hA.ev rfl)) (fun ac hA => ?_) rfl rfl rfl
    refine wpList_nil ?_
    refine hK273 _ _ ?_
    refine c_if hA rfl (fun hb277 => ?_) fun hb277 => ?_
    · replace hF := ift hb277 hF
      refine wp_seq_k fun K278 hK278 => ?_
      refine wp_reg ?_
      refine x_move hA (fun ac hA => ?_) rfl rfl rfl rfl rfl
      refine x_assign hA (fun ac hA => ?_) rfl rfl rfl rfl rfl
      refine wpList_nil ?_
      refine hK278 _ _ ?_
      refine wp_ret ?_
      replace hS := hS.pk 1
      replace hS := hS.pk 1
      cases hF
      have ht := T266_ _ rfl
      subst ht
      replace hF := hR266
      replace hF : some x252 = some y := hF
      cases hF
      refine hQ _ _ ?_
      refine lv Try.results47 hA rfl ?_
      exact ⟨rfl, hS⟩
    replace hF := iff' hb277 hF
    refine wp_skip ?_
    refine hKx272 _ _ ?_
    refine hK271 _ _ ?_
    refine wp_reg ?_
    refine x_move hA (fun ac hA => ?_) rfl rfl rfl rfl rfl
    obtain ⟨x279, h280, hF⟩ := ltt_ hF
    refine x_val (v := .int .i64 x279) hA (rv_i h280 (r_add rfl (hA.ev rfl) (hA.ev rfl))) (fun ac hA => ?_) rfl rfl rfl
    refine x_assign hA (fun ac hA => ?_) rfl rfl rfl rfl rfl
    refine wpList_nil ?_
    cases hF
    exact ⟨_, N266_ _ rfl, hA.sub _ rfl, hS⟩
  replace hF := iff' hb270 hF
  refine wp_exit ?_
  cases hF
  exact hx266_0 (T266_ _ rfl) ac w (hA.sub _ rfl) hS

set_option maxHeartbeats 4000000 in
theorem F_r05_Store_put {r : World} {L : List HP} {w : World} (a0 : S53) (a1 : S62) (g0 : Nat) {y : (S53)} (hF : r05_Store_put a0 a1 = some y) (hS : SH r (obj53 g0 a0 :: L) w) :
    Ret Try.prog 46 #[.pointer (some ⟨g0, 0, none⟩), .agg #[str a1.f0, str a1.f1, str a1.f2]] w fun v w' => v = .tuple #[] ∧ SH r (obj53 g0 y :: L) w' := by
  refine enter Try.func46 rfl Try.ntmps46 [(0, .pointer (some ⟨g0, 0, none⟩)), (1, .agg #[str a1.f0, str a1.f1, str a1.f2])] rfl (by simp) ?_
  intro ac hA Qf hQ hQn
  unfold r05_Store_put at hF
  obtain ⟨A101, n102, c103, hS⟩ := obj53_open hS
  refine wp_seq_k fun K104 hK104 => ?_
  refine wp_reg ?_
  refine x_box hA hS (fun g105 ac w hS hA => ?_) rfl rfl rfl rfl rfl rfl
  refine wpList_nil ?_
  refine hK104 _ _ ?_
  refine wp_seq_k fun K106 hK106 => ?_
  refine wp_reg ?_
  refine x_assign hA (fun ac hA => ?_) rfl rfl rfl rfl rfl
  refine wpList_nil ?_
  refine hK106 _ _ ?_
  refine wp_seq_k fun K107 hK107 => ?_
  refine wp_reg ?_
  refine x_assign hA (fun ac hA => ?_) rfl rfl rfl rfl rfl
  refine wpList_nil ?_
  refine hK107 _ _ ?_
  refine wp_seq_k fun K108 hK108 => ?_
  refine wp_seq_k fun K517 hK517 => ?_
  refine wp_reg ?_
  refine x_assign hA (fun ac hA => ?_) rfl rfl rfl rfl rfl
  refine wpList_nil ?_
  refine hK517 _ _ ?_
  refine wp_block_k fun Kx518 hKx518 => ?_
  have hb1 : ∀ (l719 : (List S62)) (b723 : Bool), r05_Store_put_b1 a0 a1 l719 b723 = some y → ∀ (A720 : Option Addr) (n721 : Nat) (c722 : Nat) (ac : Act) (w : World), FR 55 [] ac [(0, .pointer (some ⟨g0, 0, none⟩)), (3, .pointer (some ⟨g105, 0, none⟩)), (4, .slice A720 n721 c722), (5, .bool b723)] → SH r (blk g0 53 [.slice A101 n102 c103, .int .i64 a0.f1, .int .i64 a0.f2, .bool a0.f3, .int .i64 a0.f4] :: blk g105 62 [str a1.f0, str a1.f1, str a1.f2] :: own k62 62 A101 n102 c103 a0.f0 :: own k62 62 A720 n721 c722 l719 :: L) w → Kx518 ac w := by
    intro l719 b723 hF A720 n721 c722 ac w hA hS
    unfold r05_Store_put_b1 at hF
    refine hKx518 _ _ ?_
    refine hK108 _ _ ?_
    refine wp_seq_k fun K724 hK724 => ?_
    have hj1 : ∀ (l732 : (List S62)), r05_Store_put_j1 a0 l732 = some y → ∀ (A733 : Option Addr) (n734 : Nat) (c735 : Nat) (ac : Act) (w : World), FR 55 [] ac [(0, .pointer (some ⟨g0, 0, none⟩)), (4, .slice A733 n734 c735)] → SH r (blk g0 53 [.slice A101 n102 c103, .int .i64 a0.f1, .int .i64 a0.f2, .bool a0.f3, .int .i64 a0.f4] :: own k62 62 A101 n102 c103 a0.f0 :: own k62 62 A733 n734 c735 l732 :: L) w → K724 ac w := by
      intro l732 hF A733 n734 c735 ac w hA hS
      unfold r05_Store_put_j1 at hF
      refine hK724 _ _ ?_
      refine wp_reg ?_
      refine x_move hA (fun ac hA => ?_) rfl rfl rfl rfl rfl
      refine x_move hA (fun ac hA => ?_) rfl rfl rfl rfl rfl
      refine x_val hA (r_nilCheck rfl (hA.ev rfl)) (fun ac hA => ?_) rfl rfl rfl
      refine x_fab fa53_0 hA (fun ac hA => ?_) rfl rfl rfl rfl rfl
      refine x_stb 0 sz51 hA hS rfl (fun  ac w hS hA => ?_) rfl rfl rfl rfl rfl rfl rfl rfl
      refine wpList_nil ?_
      replace hS := hS.pk 2
      replace hS := hS.pk 1
      replace hS := obj53_mk (x := (⟨l732, a0.f1, a0.f2, a0.f3, a0.f4⟩ : S53)) hS
      replace hS := hS.drop 1
      cases hF
      refine hQn _ _ ?_
      refine lv0n Try.results46 hA ?_
      exact ⟨rfl, hS⟩
    refine wp_seq_k fun K736 hK736 => ?_
    refine wp_reg ?_
    refine x_move hA (fun ac hA => ?_) rfl rfl rfl rfl rfl
    refine x_val hA (r_not rfl (hA.ev rfl)) (fun ac hA => ?_) rfl rfl rfl
    refine wpList_nil ?_
    refine hK736 _ _ ?_
    refine c_if hA rfl (fun hb737 => ?_) fun hb737 => ?_
    · replace hF := ift hb737 hF
      refine wp_reg ?_
      refine x_move hA (fun ac hA => ?_) rfl rfl rfl rfl rfl
      refine x_lda (ad := ⟨g105, 0, none⟩) (cs := [str a1.f0, str a1.f1, str a1.f2]) Try.underlying62 sz62 (fun j u h => by rw [add_mk, Nat.zero_add]; exact hS.cell 1 rfl j u h) hA (fun ac hA => ?_) rfl rfl rfl rfl rfl rfl
      refine x_bsl (d := k62) (e := 62) (ps := #[(0, .agg #[str a1.f0, str a1.f1, str a1.f2])]) (cells := [str a1.f0, str a1.f1, str a1.f2]) (xs := [a1]) (fun w => by kernel_rfl) rfl ⟨[str a1.f0, str a1.f1, str a1.f2], _, rfl, rfl, rfl⟩ hA hS (fun g738 ac w hS hA => ?_) rfl rfl rfl rfl rfl rfl
      obtain ⟨h739, hF⟩ := chk_some hF
      have hr := hS.rd 0 rfl
      refine x_app 4 inf62 Try.underlying51 hA hS hr.1 hr.2.1 h739 rfl (fun A740 n741 c742 ac w hS hA => ?_) rfl rfl rfl rfl rfl rfl rfl rfl rfl
      refine x_assign hA (fun ac hA => ?_) rfl rfl rfl rfl rfl
      refine wpList_nil ?_
      replace hS := hS.drop 1
      replace hS := hS.drop 2
      replace hS := hS.pk 2
      replace hS := hS.pk 2
      exact hj1 (l719 ++ [a1]) hF A740 n741 c742 ac w (hA.sub _ rfl) hS
    replace hF := iff' hb737 hF
    refine wp_skip ?_
    replace hS := hS.drop 1
    exact hj1 l719 hF A720 n721 c722 ac w (hA.sub _ rfl) hS
  obtain ⟨t883, hl883, hF⟩ := bnd hF
  have hx883_0 : ∀ (l879 : (List S62)) (b883 : Bool), (l879, b883) = t883 → ∀ (A880 : Option Addr) (n881 : Nat) (c882 : Nat) (ac : Act) (w : World), FR 55 [] ac [(0, .pointer (some ⟨g0, 0, none⟩)), (3, .pointer (some ⟨g105, 0, none⟩)), (4, .slice A880 n881 c882), (5, .bool b883)] → SH r (blk g0 53 [.slice A101 n102 c103, .int .i64 a0.f1, .int .i64 a0.f2, .bool a0.f3, .int .i64 a0.f4] :: blk g105 62 [str a1.f0, str a1.f1, str a1.f2] :: own k62 62 A101 n102 c103 a0.f0 :: own k62 62 A880 n881 c882 l879 :: L) w → Kx518 ac w := by
    intro l879 b883 ht A880 n881 c882 ac w hA hS
    subst ht
    replace hF : r05_Store_put_x1_0 a0 a1 l879 b883 = some y := hF
    unfold r05_Store_put_x1_0 at hF
    exact hb1 l879 b883 hF A880 n881 c882 ac w (hA.sub _ rfl) hS
  replace hS := SH.nil_own (d := k62) (e := 62) hS
  replace hS := hS.pk 3
  replace hS := hS.pk 2
  replace hS := hS.pk 3
  refine wp_loop_fn hl883 (fun s ac w => ∃ (A810 : Option Addr) (n811 : Nat) (c812 : Nat), FR 55 [] ac [(0, .pointer (some ⟨g0, 0, none⟩)), (3, .pointer (some ⟨g105, 0, none⟩)), (4, .slice A810 n811 c812), (5, .bool s.2.1), (6, .int .i64 s.2.2)] ∧ SH r (blk g0 53 [.slice A101 n102 c103, .int .i64 a0.f1, .int .i64 a0.f2, .bool a0.f3, .int .i64 a0.f4] :: blk g105 62 [str a1.f0, str a1.f1, str a1.f2] :: own k62 62 A101 n102 c103 a0.f0 :: own k62 62 A810 n811 c812 s.1 :: L) w) ⟨none, 0, 0, hA.sub _ rfl, hS⟩ ?_
  intro N883 s883 o883 hF N883_ T883_ ac w hLab
  obtain ⟨l809, b813, x814⟩ := s883
  replace hF : r05_Store_put_l1 a0 a1 l809 b813 x814 = some o883 := hF
  unfold r05_Store_put_l1 at hF
  try dsimp only at hLab
  obtain ⟨A810, n811, c812, hA, hS⟩ := hLab
  refine wp_seq_k fun K885 hK885 => ?_
  refine wp_seq_k fun K886 hK886 => ?_
  refine wp_reg ?_
  refine x_move hA (fun ac hA => ?_) rfl rfl rfl rfl rfl
  refine x_move hA (fun ac hA => ?_) rfl rfl rfl rfl rfl
  refine x_val hA (r_nilCheck rfl (hA.ev rfl)) (fun ac hA => ?_) rfl rfl rfl
  refine x_fab fa53_0 hA (fun ac hA => ?_) rfl rfl rfl rfl rfl
  refine x_ld Try.underlying51 (hS.cell 0 rfl 0 _ rfl) hA (fun ac hA => ?_) rfl rfl rfl rfl rfl rfl
  refine x_len Try.underlying51 (hS.rd 2 rfl).2.1 hA (fun ac hA => ?_) rfl rfl rfl rfl rfl
  refine x_val hA (r_ltI rfl (hA.ev rfl) (hA.ev rfl)) (fun ac hA => ?_) rfl rfl rfl
  refine wpList_nil ?_
  refine hK886 _ _ ?_
  refine c_if hA rfl (fun hb887 => ?_) fun hb887 => ?_
  · replace hF := ift hb887 hF
    refine wp_skip ?_
    refine hK885 _ _ ?_
    refine wp_seq_k fun K888 hK888 => ?_
    refine wp_block_k fun Kx889 hKx889 => ?_
    refine wp_seq_k fun K890 hK890 => ?_
    have hj2 : ∀ (l909 : (List S62)) (b913 : Bool), r05_Store_put_j2 a0 x814 l909 b913 = some o883 → ∀ (A910 : Option Addr) (n911 : Nat) (c912 : Nat) (ac : Act) (w : World), FR 55 [] ac [(0, .pointer (some ⟨g0, 0, none⟩)), (3, .pointer (some ⟨g105, 0, none⟩)), (4, .slice A910 n911 c912), (5, .bool b913), (6, .int .i64 x814)] → SH r (blk g0 53 [.slice A101 n102 c103, .int .i64 a0.f1, .int .i64 a0.f2, .bool a0.f3, .int .i64 a0.f4] :: blk g105 62 [str a1.f0, str a1.f1, str a1.f2] :: own k62 62 A101 n102 c103 a0.f0 :: own k62 62 A910 n911 c912 l909 :: L) w → K890 ac w := by
      intro l909 b913 hF A910 n911 c912 ac w hA hS
      unfold r05_Store_put_j2 at hF
      refine hK890 _ _ ?_
      refine wp_reg ?_
      refine x_move hA (fun ac hA => ?_) rfl rfl rfl rfl rfl
      refine x_move hA (fun ac hA => ?_) rfl rfl rfl rfl rfl
      refine x_val hA (r_nilCheck rfl (hA.ev rfl)) (fun ac hA => ?_) rfl rfl rfl
      refine x_fab fa53_0 hA (fun ac hA => ?_) rfl rfl rfl rfl rfl
      refine x_ld Try.underlying51 (hS.cell 0 rfl 0 _ rfl) hA (fun ac hA => ?_) rfl rfl rfl rfl rfl rfl
      refine x_move hA (fun ac hA => ?_) rfl rfl rfl rfl rfl
      obtain ⟨x914, h915, hF⟩ := bnd hF
      refine x_ia Try.underlying51 sz62 (hS.rd 2 rfl) h915 hA (fun ac hA => ?_) rfl rfl rfl rfl rfl rfl
      obtain ⟨cs, hV, hc916⟩ := el (hS.rd 2 rfl) h915
      obtain rfl := hV
      refine x_lda (cs := [str x914.f0, str x914.f1, str x914.f2]) Try.underlying62 sz62 (fun j u h => by rw [ea_add]; exact hc916 _ _ h) hA (fun ac hA => ?_) rfl rfl rfl rfl rfl rfl
      refine x_bsl (d := k62) (e := 62) (ps := #[(0, .agg #[str x914.f0, str x914.f1, str x914.f2])]) (cells := [str x914.f0, str x914.f1, str x914.f2]) (xs := [x914]) (fun w => by kernel_rfl) rfl ⟨[str x914.f0, str x914.f1, str x914.f2], _, rfl, rfl, rfl⟩ hA hS (fun g917 ac w hS hA => ?_) rfl rfl rfl rfl rfl rfl
      obtain ⟨h918, hF⟩ := chk_some hF
      have hr := hS.rd 0 rfl
      refine x_app 4 inf62 Try.underlying51 hA hS hr.1 hr.2.1 h918 rfl (fun A919 n920 c921 ac w hS hA => ?_) rfl rfl rfl rfl rfl rfl rfl rfl rfl
      refine x_assign hA (fun ac hA => ?_) rfl rfl rfl rfl rfl
      refine wpList_nil ?_
      refine hKx889 _ _ ?_
      refine hK888 _ _ ?_
      refine wp_reg ?_
      refine x_move hA (fun ac hA => ?_) rfl rfl rfl rfl rfl
      obtain ⟨x922, h923, hF⟩ := ltt_ hF
      refine x_val (v := .int .i64 x922) hA (rv_i h923 (r_add rfl (hA.ev rfl) (hA.ev rfl))) (fun ac hA => ?_) rfl rfl rfl
      refine x_assign hA (fun ac hA => ?_) rfl rfl rfl rfl rfl
      refine wpList_nil ?_
      replace hS := hS.drop 1
      replace hS := hS.pk 3
      replace hS := hS.pk 3
      replace hS := hS.pk 3
      cases hF
      exact ⟨_, N883_ _ rfl, A919, n920, c921, hA.sub _ rfl, hS⟩
    refine wp_seq_k fun K924 hK924 => ?_
    have hj3 : ∀ (b929 : Bool), r05_Store_put_j3 a0 a1 l809 b813 x814 b929 = some o883 → ∀ (ac : Act) (w : World), FR 55 [] ac [(0, .pointer (some ⟨g0, 0, none⟩)), (3, .pointer (some ⟨g105, 0, none⟩)), (4, .slice A810 n811 c812), (5, .bool b813), (6, .int .i64 x814), (30, .bool b929)] → SH r (blk g0 53 [.slice A101 n102 c103, .int .i64 a0.f1, .int .i64 a0.f2, .bool a0.f3, .int .i64 a0.f4] :: blk g105 62 [str a1.f0, str a1.f1, str a1.f2] :: own k62 62 A101 n102 c103 a0.f0 :: own k62 62 A810 n811 c812 l809 :: L) w → K924 ac w := by
      intro b929 hF ac w hA hS
      unfold r05_Store_put_j3 at hF
      refine hK924 _ _ ?_
      refine c_if hA rfl (fun hb930 => ?_) fun hb930 => ?_
      · replace hF := ift hb930 hF
        refine wp_seq_k fun K931 hK931 => ?_
        refine wp_reg ?_
        refine x_move hA (fun ac hA => ?_) rfl rfl rfl rfl rfl
        refine x_lda (ad := ⟨g105, 0, none⟩) (cs := [str a1.f0, str a1.f1, str a1.f2]) Try.underlying62 sz62 (fun j u h => by rw [add_mk, Nat.zero_add]; exact hS.cell 1 rfl j u h) hA (fun ac hA => ?_) rfl rfl rfl rfl rfl rfl
        refine x_bsl (d := k62) (e := 62) (ps := #[(0, .agg #[str a1.f0, str a1.f1, str a1.f2])]) (cells := [str a1.f0, str a1.f1, str a1.f2]) (xs := [a1]) (fun w => by kernel_rfl) rfl ⟨[str a1.f0, str a1.f1, str a1.f2], _, rfl, rfl, rfl⟩ hA hS (fun g932 ac w hS hA => ?_) rfl rfl rfl rfl rfl rfl
        obtain ⟨h933, hF⟩ := chk_some hF
        have hr := hS.rd 0 rfl
        refine x_app 4 inf62 Try.underlying51 hA hS hr.1 hr.2.1 h933 rfl (fun A934 n935 c936 ac w hS hA => ?_) rfl rfl rfl rfl rfl rfl rfl rfl rfl
        refine x_assign hA (fun ac hA => ?_) rfl rfl rfl rfl rfl
        refine wpList_nil ?_
        refine hK931 _ _ ?_
        refine wp_reg ?_
        refine x_assign hA (fun ac hA => ?_) rfl rfl rfl rfl rfl
        refine wpList_nil ?_
        replace hS := hS.drop 1
        replace hS := hS.pk 3
        replace hS := hS.pk 3
        replace hS := hS.pk 3
        exact hj2 (l809 ++ [a1]) true hF A934 n935 c936 ac w (hA.sub _ rfl) hS
      replace hF := iff' hb930 hF
      refine wp_skip ?_
      exact hj2 l809 b813 hF A810 n811 c812 ac w (hA.sub _ rfl) hS
    refine wp_draw [0, 1, 3, 7, 15, 31, 63, 7, 255, 511, 1023, 7, 2055, 8191, 16383] [] rfl hA hS (by kernel_rfl) (by kernel_rfl) (by kernel_rfl) (by kernel_rfl) fun w hS => ?_
    refine bcase (b := !b813) (fun hb937 => ?_) fun hb937 => ?_
    · replace hF := ift hb937 hF
      obtain ⟨x938, h939, hF⟩ := bnd hF
      obtain ⟨cs, hV, hc940⟩ := el (hS.rd 2 rfl) h939
      obtain rfl := hV
      refine ⟨[(0, .bool b813), (1, .bool (!b813)), (2, .bool (!b813)), (3, .pointer (some ⟨g0, 0, none⟩)), (4, .pointer (some ⟨g0, 0, none⟩)), (5, .pointer (some ⟨g0, 0, none⟩)), (6, .slice A101 n102 c103), (7, .int .i64 x814), (8, .pointer (some (ea A101 (x814.toNat * 3)))), (9, .pointer (some (ea A101 (x814.toNat * 3)))), (10, str x938.f0), (11, .pointer (some ⟨g105, 0, none⟩)), (12, str a1.f0), (13, .bool (!(Op.bytesLess x938.f0 a1.f0 || x938.f0 == a1.f0))), (14, .bool (!(Op.bytesLess x938.f0 a1.f0 || x938.f0 == a1.f0)))], ?_⟩
      refine dEnd [0, 1, 2, 3, 4, 5, 6, 7, 8, 9, 10, 11, 12, 13, 14] (by kernel_rfl) ⟨pu rfl rfl [(5, .bool b813)] (fun ac hA => y_move hA rfl rfl) rfl rfl, pu rfl rfl [(16, .bool b813)] (fun ac hA => r_not rfl (hA.ev rfl)) rfl rfl, pu rfl rfl [(17, .bool (!b813))] (fun ac hA => y_move hA rfl rfl) rfl rfl, puOn rfl rfl rfl rfl [(0, .pointer (some ⟨g0, 0, none⟩)), (18, .bool (!b813))] rfl hb937 (fun ac hA => y_move hA rfl rfl) rfl, puOn rfl rfl rfl rfl [(18, .bool (!b813)), (19, .pointer (some ⟨g0, 0, none⟩))] rfl hb937 (fun ac hA => r_nilCheck rfl (hA.ev rfl)) rfl, puOn rfl rfl rfl rfl [(18, .bool (!b813)), (20, .pointer (some ⟨g0, 0, none⟩))] rfl hb937 (fun ac hA => y_fab fa53_0 hA rfl rfl) rfl, puOn rfl rfl rfl rfl [(18, .bool (!b813)), (21, .pointer (some ⟨g0, 0, none⟩))] rfl hb937 (fun ac hA => y_ld Try.underlying51 (hS.cell 0 rfl 0 _ rfl) hA rfl rfl rfl) rfl, puOn rfl rfl rfl rfl [(6, .int .i64 x814), (18, .bool (!b813))] rfl hb937 (fun ac hA => y_move hA rfl rfl) rfl, puOn rfl rfl rfl rfl [(18, .bool (!b813)), (22, .slice A101 n102 c103), (23, .int .i64 x814)] rfl hb937 (fun ac hA => y_ia Try.underlying51 sz62 (hS.rd 2 rfl) h939 hA rfl rfl rfl) rfl, puOn rfl rfl rfl rfl [(18, .bool (!b813)), (24, .pointer (some (ea A101 (x814.toNat * 3))))] rfl hb937 (fun ac hA => y_fae (m := x814.toNat * 3) fa62_0 hA rfl rfl) rfl, puOn rfl rfl rfl rfl [(18, .bool (!b813)), (25, .pointer (some (ea A101 (x814.toNat * 3))))] rfl hb937 (fun ac hA => y_ld Try.underlying9 (hc940 0 _ rfl) hA rfl rfl rfl) rfl, puOn rfl rfl rfl rfl [(3, .pointer (some ⟨g105, 0, none⟩)), (18, .bool (!b813))] rfl hb937 (fun ac hA => y_fab fa62_0 hA rfl rfl) rfl, puOn rfl rfl rfl rfl [(18, .bool (!b813)), (27, .pointer (some ⟨g105, 0, none⟩))] rfl hb937 (fun ac hA => y_ld Try.underlying9 (hS.cell 1 rfl 0 _ rfl) hA rfl rfl rfl) rfl, puOn rfl rfl rfl rfl [(18, .bool (!b813)), (26, str x938.f0), (28, str a1.f0)] rfl hb937 (fun ac hA => r_gtS rfl (hA.ev rfl) (hA.ev rfl)) rfl, pu rfl rfl [(18, .bool (!b813)), (29, .bool (!(Op.bytesLess x938.f0 a1.f0 || x938.f0 == a1.f0)))] (fun ac hA => y_pickt hb937 hA rfl rfl rfl) rfl rfl, trivial⟩ ⟨by kernel_rfl, by kernel_rfl⟩ [(0, .pointer (some ⟨g0, 0, none⟩)), (3, .pointer (some ⟨g105, 0, none⟩)), (4, .slice A810 n811 c812), (5, .bool b813), (6, .int .i64 x814), (19, .pointer (some ⟨g0, 0, none⟩)), (20, .pointer (some ⟨g0, 0, none⟩)), (21, .pointer (some ⟨g0, 0, none⟩)), (22, .slice A101 n102 c103), (23, .int .i64 x814), (26, str x938.f0), (27, .pointer (some ⟨g105, 0, none⟩)), (28, str a1.f0), (29, .bool (!(Op.bytesLess x938.f0 a1.f0 || x938.f0 == a1.f0))), (30, .bool (!(Op.bytesLess x938.f0 a1.f0 || x938.f0 == a1.f0)))] rfl (fun ac hA => ?_)
      exact hj3 (!(Op.bytesLess x938.f0 a1.f0 || x938.f0 == a1.f0)) hF ac w (hA.sub _ rfl) hS
    replace hF := iff' hb937 hF
    refine ⟨[(0, .bool b813), (1, .bool (!b813)), (2, .bool (!b813)), (3, undef), (4, undef), (5, undef), (6, undef), (7, undef), (8, undef), (9, undef), (10, undef), (11, undef), (12, undef), (13, undef), (14, .bool false)], ?_⟩
    refine dEnd [0, 1, 2, 3, 4, 5, 6, 7, 8, 9, 10, 11, 12, 13, 14] (by kernel_rfl) ⟨pu rfl rfl [(5, .bool b813)] (fun ac hA => y_move hA rfl rfl) rfl rfl, pu rfl rfl [(16, .bool b813)] (fun ac hA => r_not rfl (hA.ev rfl)) rfl rfl, pu rfl rfl [(17, .bool (!b813))] (fun ac hA => y_move hA rfl rfl) rfl rfl, puOff rfl rfl rfl rfl [(0, .pointer (some ⟨g0, 0, none⟩)), (18, .bool (!b813))] rfl hb937 rfl, puOff rfl rfl rfl rfl [(18, .bool (!b813)), (19, undef)] rfl hb937 rfl, puOff rfl rfl rfl rfl [(18, .bool (!b813)), (20, undef)] rfl hb937 rfl, puOff rfl rfl rfl rfl [(18, .bool (!b813)), (21, undef)] rfl hb937 rfl, puOff rfl rfl rfl rfl [(6, .int .i64 x814), (18, .bool (!b813))] rfl hb937 rfl, puOff rfl rfl rfl rfl [(18, .bool (!b813)), (22, undef), (23, undef)] rfl hb937 rfl, puOff rfl rfl rfl rfl [(18, .bool (!b813)), (24, undef)] rfl hb937 rfl, puOff rfl rfl rfl rfl [(18, .bool (!b813)), (25, undef)] rfl hb937 rfl, puOff rfl rfl rfl rfl [(3, .pointer (some ⟨g105, 0, none⟩)), (18, .bool (!b813))] rfl hb937 rfl, puOff rfl rfl rfl rfl [(18, .bool (!b813)), (27, undef)] rfl hb937 rfl, puOff rfl rfl rfl rfl [(18, .bool (!b813)), (26, undef), (28, undef)] rfl hb937 rfl, pu rfl rfl [(18, .bool (!b813)), (29, undef)] (fun ac hA => y_pickf hb937 hA rfl rfl rfl) rfl rfl, trivial⟩ ⟨by kernel_rfl, by kernel_rfl⟩ [(0, .pointer (some ⟨g0, 0, none⟩)), (3, .pointer (some ⟨g105, 0, none⟩)), (4, .slice A810 n811 c812), (5, .bool b813), (6, .int .i64 x814), (30, .bool false)] rfl (fun ac hA => ?_)
    exact hj3 false hF ac w (hA.sub _ rfl) hS
  replace hF := iff' hb887 hF
  refine wp_exit ?_
  cases hF
  exact hx883_0 l809 b813 (T883_ _ rfl) A810 n811 c812 ac w (hA.sub _ rfl) hS

set_option maxHeartbeats 4000000 in
theorem F_r05_Store_drop {r : World} {L : List HP} {w : World} (a0 : S53) (a1 : Int) (g0 : Nat) {y : (S53)} (hF : r05_Store_drop a0 a1 = some y) (hS : SH r (obj53 g0 a0 :: L) w) :
    Ret Try.prog 48 #[.pointer (some ⟨g0, 0, none⟩), .int .i64 a1] w fun v w' => v = .tuple #[] ∧ SH r (obj53 g0 y :: L) w' := by
  refine enter Try.func48 rfl Try.ntmps48 [(0, .pointer (some ⟨g0, 0, none⟩)), (1, .int .i64 a1)] rfl (by simp) ?_
  intro ac hA Qf hQ hQn
  unfold r05_Store_drop at hF
  obtain ⟨A101, n102, c103, hS⟩ := obj53_open hS
  refine wp_seq_k fun K104 hK104 => ?_
  refine wp_reg ?_
  refine x_assign hA (fun ac hA => ?_) rfl rfl rfl rfl rfl
  refine wpList_nil ?_
  refine hK104 _ _ ?_
  refine wp_seq_k fun K105 hK105 => ?_
  refine wp_reg ?_
  refine x_move hA (fun ac hA => ?_) rfl rfl rfl rfl rfl
  refine x_move hA (fun ac hA => ?_) rfl rfl rfl rfl rfl
  refine x_val hA (r_nilCheck rfl (hA.ev rfl)) (fun ac hA => ?_) rfl rfl rfl
  refine x_fab fa53_0 hA (fun ac hA => ?_) rfl rfl rfl rfl rfl
  refine x_ld Try.underlying51 (hS.cell 0 rfl 0 _ rfl) hA (fun ac hA => ?_) rfl rfl rfl rfl rfl rfl
  refine x_move hA (fun ac hA => ?_) rfl rfl rfl rfl rfl
  obtain ⟨l106, h107, hF⟩ := bnd hF
  refine x_val hA (r_slice_h Try.underlying51 sz62 rfl (hA.ev rfl) (hA.ev rfl) (cutq (hS.rd 1 rfl) h107).2.2.2.2.1 (cutq (hS.rd 1 rfl) h107).2.2.1) (fun ac hA => ?_) rfl rfl rfl
  replace hS := SH.nil_own (d := k62) (e := 62) hS
  obtain ⟨h108, hF⟩ := chk_some hF
  have hr := rq_h (hS.rd 2 rfl) h107
  refine x_app 0 inf62 Try.underlying51 hA hS hr.1 hr.2.1 h108 rfl (fun A109 n110 c111 ac w hS hA => ?_) rfl rfl rfl rfl rfl rfl rfl rfl rfl
  rw [List.nil_append] at hS
  refine x_assign hA (fun ac hA => ?_) rfl rfl rfl rfl rfl
  refine wpList_nil ?_
  refine hK105 _ _ ?_
  refine wp_reg ?_
  refine x_move hA (fun ac hA => ?_) rfl rfl rfl rfl rfl
  refine x_move hA (fun ac hA => ?_) rfl rfl rfl rfl rfl
  refine x_move hA (fun ac hA => ?_) rfl rfl rfl rfl rfl
  refine x_val hA (r_nilCheck rfl (hA.ev rfl)) (fun ac hA => ?_) rfl rfl rfl
  refine x_fab fa53_0 hA (fun ac hA => ?_) rfl rfl rfl rfl rfl
  refine x_ld Try.underlying51 (hS.cell 1 rfl 0 _ rfl) hA (fun ac hA => ?_) rfl rfl rfl rfl rfl rfl
  refine x_move hA (fun ac hA => ?_) rfl rfl rfl rfl rfl
  obtain ⟨x112, h113, hF⟩ := ltt_ hF
  refine x_val (v := .int .i64 x112) hA (rv_i h113 (r_add rfl (hA.ev rfl) (hA.ev rfl))) (fun ac hA => ?_) rfl rfl rfl
  obtain ⟨l114, h115, hF⟩ := bnd hF
  refine x_val hA (r_slice_l Try.underlying51 sz62 rfl (hA.ev rfl) (hA.ev rfl) (cutq (hS.rd 2 rfl) h115).1 (cutq (hS.rd 2 rfl) h115).2.2.2.2.2) (fun ac hA => ?_) rfl rfl rfl
  obtain ⟨h116, hF⟩ := chk_some hF
  have hr := rq_l (hS.rd 2 rfl) h115
  refine x_app 0 inf62 Try.underlying51 hA hS hr.1 hr.2.1 h116 rfl (fun A117 n118 c119 ac w hS hA => ?_) rfl rfl rfl rfl rfl rfl rfl rfl rfl
  refine x_val hA (r_nilCheck rfl (hA.ev rfl)) (fun ac hA => ?_) rfl rfl rfl
  refine x_fab fa53_0 hA (fun ac hA => ?_) rfl rfl rfl rfl rfl
  refine x_stb 1 sz51 hA hS rfl (fun  ac w hS hA => ?_) rfl rfl rfl rfl rfl rfl rfl rfl
  refine wpList_nil ?_
  replace hS := hS.pk 1
  replace hS := hS.pk 1
  replace hS := obj53_mk (x := (⟨l106 ++ l114, a0.f1, a0.f2, a0.f3, a0.f4⟩ : S53)) hS
  replace hS := hS.drop 1
  cases hF
  refine hQn _ _ ?_
  refine lv0n Try.results48 hA ?_
  exact ⟨rfl, hS⟩

set_option maxHeartbeats 4000000 in
theorem F_r05_Store_Used {r : World} {L : List HP} {w : World} (a0 : S53) (g0 : Nat) (A0_0 : Option Addr) (n0_0 : Nat) (c0_0 : Nat) {y : (Int)} (hF : r05_Store_Used a0 = some y) (hS : SH r (blk g0 53 [.slice A0_0 n0_0 c0_0, .int .i64 a0.f1, .int .i64 a0.f2, .bool a0.f3, .int .i64 a0.f4] :: own k62 62 A0_0 n0_0 c0_0 a0.f0 :: L) w) :
    Ret Try.prog 31 #[.pointer (some ⟨g0, 0, none⟩)] w fun v w' => v = .int .i64 y ∧ SH r (blk g0 53 [.slice A0_0 n0_0 c0_0, .int .i64 a0.f1, .int .i64 a0.f2, .bool a0.f3, .int .i64 a0.f4] :: own k62 62 A0_0 n0_0 c0_0 a0.f0 :: L) w' := by
  refine enter Try.func31 rfl Try.ntmps31 [(0, .pointer (some ⟨g0, 0, none⟩))] rfl (by simp) ?_
  intro ac hA Qf hQ hQn
  unfold r05_Store_Used at hF
  refine wp_seq_k fun K101 hK101 => ?_
  refine wp_reg ?_
  refine x_assign hA (fun ac hA => ?_) rfl rfl rfl rfl rfl
  refine wpList_nil ?_
  refine hK101 _ _ ?_
  refine wp_seq_k fun K102 hK102 => ?_
  refine wp_reg ?_
  refine x_assign hA (fun ac hA => ?_) rfl rfl rfl rfl rfl
  refine wpList_nil ?_
  refine hK102 _ _ ?_
  refine wp_seq_k fun K103 hK103 => ?_
  refine wp_seq_k fun K214 hK214 => ?_
  refine wp_reg ?_
  refine x_assign hA (fun ac hA => ?_) rfl rfl rfl rfl rfl
  refine wpList_nil ?_
  refine hK214 _ _ ?_
  refine wp_block_k fun Kx215 hKx215 => ?_
  have hb1 : ∀ (x269 : Int), r05_Store_Used_b1 x269 = some y → ∀ (ac : Act) (w : World), FR 36 [] ac [(0, .pointer (some ⟨g0, 0, none⟩)), (3, .int .i64 x269)] → SH r (blk g0 53 [.slice A0_0 n0_0 c0_0, .int .i64 a0.f1, .int .i64 a0.f2, .bool a0.f3, .int .i64 a0.f4] :: own k62 62 A0_0 n0_0 c0_0 a0.f0 :: L) w → Kx215 ac w := by
    intro x269 hF ac w hA hS
    unfold r05_Store_Used_b1 at hF
    refine hKx215 _ _ ?_
    refine hK103 _ _ ?_
    refine wp_seq_k fun K270 hK270 => ?_
    refine wp_reg ?_
    refine x_move hA (fun ac hA => ?_) rfl rfl rfl rfl rfl
    refine x_assign hA (fun ac hA => ?_) rfl rfl rfl rfl rfl
    refine wpList_nil ?_
    refine hK270 _ _ ?_
    refine wp_ret ?_
    replace hS := hS.pk 1
    replace hS := hS.pk 1
    cases hF
    refine hQ _ _ ?_
    refine lv Try.results31 hA rfl ?_
    exact ⟨rfl, hS⟩
  obtain ⟨t307, hl307, hF⟩ := bnd hF
  have hx307_0 : ∀ (x307 : Int), (x307) = t307 → ∀ (ac : Act) (w : World), FR 36 [] ac [(0, .pointer (some ⟨g0, 0, none⟩)), (3, .int .i64 x307)] → SH r (blk g0 53 [.slice A0_0 n0_0 c0_0, .int .i64 a0.f1, .int .i64 a0.f2, .bool a0.f3, .int .i64 a0.f4] :: own k62 62 A0_0 n0_0 c0_0 a0.f0 :: L) w → Kx215 ac w := by
    intro x307 ht ac w hA hS
    subst ht
    replace hF : r05_Store_Used_x1_0 x307 = some y := hF
    unfold r05_Store_Used_x1_0 at hF
    exact hb1 x307 hF ac w (hA.sub _ rfl) hS
  refine wp_loop_fn hl307 (fun s ac w => FR 36 [] ac [(0, .pointer (some ⟨g0, 0, none⟩)), (3, .int .i64 s.1), (4, .int .i64 s.2)] ∧ SH r (blk g0 53 [.slice A0_0 n0_0 c0_0, .int .i64 a0.f1, .int .i64 a0.f2, .bool a0.f3, .int .i64 a0.f4] :: own k62 62 A0_0 n0_0 c0_0 a0.f0 :: L) w) ⟨hA.sub _ rfl, hS⟩ ?_
  intro N307 s307 o307 hF N307_ T307_ ac w hLab
  obtain ⟨x288, x289⟩ := s307
  replace hF : r05_Store_Used_l1 a0 x288 x289 = some o307 := hF
  unfold r05_Store_Used_l1 at hF
  try dsimp only at hLab
  obtain ⟨hA, hS⟩ := hLab
  refine wp_seq_k fun K309 hK309 => ?_
  refine wp_seq_k fun K310 hK310 => ?_
  refine wp_reg ?_
  refine x_move hA (fun ac hA => ?_) rfl rfl rfl rfl rfl
  refine x_move hA (fun ac hA => ?_) rfl rfl rfl rfl rfl
  refine x_val hA (r_nilCheck rfl (hA.ev rfl)) (fun ac hA => ?_) rfl rfl rfl
  refine x_fab fa53_0 hA (fun ac hA => ?_) rfl rfl rfl rfl rfl
  refine x_ld Try.underlying51 (hS.cell 0 rfl 0 _ rfl) hA (fun ac hA => ?_) rfl rfl rfl rfl rfl rfl
  refine x_len Try.underlying51 (hS.rd 1 rfl).2.1 hA (fun ac hA => ?_) rfl rfl rfl rfl rfl
  refine x_val hA (r_ltI rfl (hA.ev rfl) (hA.ev rfl)) (fun ac hA => ?_) rfl rfl rfl
  refine wpList_nil ?_
  refine hK310 _ _ ?_
  refine c_if hA rfl (fun hb311 => ?_) fun hb311 => ?_
  · replace hF := ift hb311 hF
    refine wp_skip ?_
    refine hK309 _ _ ?_
    refine wp_seq_k fun K312 hK312 => ?_
    refine wp_block_k fun Kx313 hKx313 => ?_
    refine wp_draw [0, 0, 2, 6, 14, 0, 62, 126, 254, 510, 0, 1024, 3072, 7168, 0, 31744, 64512, 130048, 261120, 524286, 1048575, 2097151] [] rfl hA hS (by kernel_rfl) (by kernel_rfl) (by kernel_rfl) (by kernel_rfl) fun w hS => ?_
    obtain ⟨x314, h315, hF⟩ := bnd hF
    obtain ⟨cs, hV, hc316⟩ := el (hS.rd 1 rfl) h315
    obtain rfl := hV
    obtain ⟨cs, hV, hc317⟩ := el (hS.rd 1 rfl) h315
    obtain rfl := hV
    obtain ⟨x318, h319, hF⟩ := ltt_ hF
    obtain ⟨x320, h321, hF⟩ := ltt_ hF
    refine ⟨[(0, .int .i64 x288), (1, .pointer (some ⟨g0, 0, none⟩)), (2, .pointer (some ⟨g0, 0, none⟩)), (3, .pointer (some ⟨g0, 0, none⟩)), (4, .slice A0_0 n0_0 c0_0), (5, .int .i64 x289), (6, .pointer (some (ea A0_0 (x289.toNat * 3)))), (7, .pointer (some (ea A0_0 (x289.toNat * 3 + 1)))), (8, str x314.f1), (9, .int .i64 (x314.f1.length : Int)), (10, .pointer (some ⟨g0, 0, none⟩)), (11, .pointer (some ⟨g0, 0, none⟩)), (12, .pointer (some ⟨g0, 0, none⟩)), (13, .slice A0_0 n0_0 c0_0), (14, .int .i64 x289), (15, .pointer (some (ea A0_0 (x289.toNat * 3)))), (16, .pointer (some (ea A0_0 (x289.toNat * 3 + 2)))), (17, str x314.f2), (18, .int .i64 (x314.f2.length : Int)), (19, .int .i64 x318), (20, .int .i64 x320), (21, .int .i64 x320)], ?_⟩
    refine dEnd [0, 1, 2, 3, 4, 5, 6, 7, 8, 9, 10, 11, 12, 13, 14, 15, 16, 17, 18, 19, 20, 21] (by kernel_rfl) ⟨pu rfl rfl [(3, .int .i64 x288)] (fun ac hA => y_move hA rfl rfl) rfl rfl, pu rfl rfl [(0, .pointer (some ⟨g0, 0, none⟩))] (fun ac hA => y_move hA rfl rfl) rfl rfl, pu rfl rfl [(15, .pointer (some ⟨g0, 0, none⟩))] (fun ac hA => r_nilCheck rfl (hA.ev rfl)) rfl rfl, pu rfl rfl [(16, .pointer (some ⟨g0, 0, none⟩))] (fun ac hA => y_fab fa53_0 hA rfl rfl) rfl rfl, pu rfl rfl [(17, .pointer (some ⟨g0, 0, none⟩))] (fun ac hA => y_ld Try.underlying51 (hS.cell 0 rfl 0 _ rfl) hA rfl rfl rfl) rfl rfl, pu rfl rfl [(4, .int .i64 x289)] (fun ac hA => y_move hA rfl rfl) rfl rfl, pu rfl rfl [(18, .slice A0_0 n0_0 c0_0), (19, .int .i64 x289)] (fun ac hA => y_ia Try.underlying51 sz62 (hS.rd 1 rfl) h315 hA rfl rfl rfl) rfl rfl, pu rfl rfl [(20, .pointer (some (ea A0_0 (x289.toNat * 3))))] (fun ac hA => y_fae (m := x289.toNat * 3) fa62_1 hA rfl rfl) rfl rfl, pu rfl rfl [(21, .pointer (some (ea A0_0 (x289.toNat * 3 + 1))))] (fun ac hA => y_ld Try.underlying9 (hc316 1 _ rfl) hA rfl rfl rfl) rfl rfl, pu rfl rfl [(22, str x314.f1)] (fun ac hA => r_lenS Try.underlying9 rfl (hA.ev rfl)) rfl rfl, pu rfl rfl [(0, .pointer (some ⟨g0, 0, none⟩))] (fun ac hA => y_move hA rfl rfl) rfl rfl, pu rfl rfl [(24, .pointer (some ⟨g0, 0, none⟩))] (fun ac hA => r_nilCheck rfl (hA.ev rfl)) rfl rfl, pu rfl rfl [(25, .pointer (some ⟨g0, 0, none⟩))] (fun ac hA => y_fab fa53_0 hA rfl rfl) rfl rfl, pu rfl rfl [(26, .pointer (some ⟨g0, 0, none⟩))] (fun ac hA => y_ld Try.underlying51 (hS.cell 0 rfl 0 _ rfl) hA rfl rfl rfl) rfl rfl, pu rfl rfl [(4, .int .i64 x289)] (fun ac hA => y_move hA rfl rfl) rfl rfl, pu rfl rfl [(27, .slice A0_0 n0_0 c0_0), (28, .int .i64 x289)] (fun ac hA => y_ia Try.underlying51 sz62 (hS.rd 1 rfl) h315 hA rfl rfl rfl) rfl rfl, pu rfl rfl [(29, .pointer (some (ea A0_0 (x289.toNat * 3))))] (fun ac hA => y_fae (m := x289.toNat * 3) fa62_2 hA rfl rfl) rfl rfl, pu rfl rfl [(30, .pointer (some (ea A0_0 (x289.toNat * 3 + 2))))] (fun ac hA => y_ld Try.underlying9 (hc317 2 _ rfl) hA rfl rfl rfl) rfl rfl, pu rfl rfl [(31, str x314.f2)] (fun ac hA => r_lenS Try.underlying9 rfl (hA.ev rfl)) rfl rfl, pu rfl rfl [(23, .int .i64 (x314.f1.length : Int)), (32, .int .i64 (x314.f2.length : Int))] (fun ac hA => (rv_i h319 (r_add rfl (hA.ev rfl) (hA.ev rfl)) : RunV _ _ _ _ (.int .i64 x318))) rfl rfl, pu rfl rfl [(14, .int .i64 x288), (33, .int .i64 x318)] (fun ac hA => (rv_i h321 (r_add rfl (hA.ev rfl) (hA.ev rfl)) : RunV _ _ _ _ (.int .i64 x320))) rfl rfl, pu rfl rfl [(34, .int .i64 x320)] (fun ac hA => y_assign hA rfl rfl) rfl rfl, trivial⟩ ⟨by kernel_rfl, by kernel_rfl⟩ [(0, .pointer (some ⟨g0, 0, none⟩)), (3, .int .i64 x320), (4, .int .i64 x289)] rfl (fun ac hA => ?_)
    refine hKx313 _ _ ?_
    refine hK312 _ _ ?_
    refine wp_reg ?_
    refine x_move hA (fun ac hA => ?_) rfl rfl rfl rfl rfl
    obtain ⟨x322, h323, hF⟩ := ltt_ hF
    refine x_val (v := .int .i64 x322) hA (rv_i h323 (r_add rfl (hA.ev rfl) (hA.ev rfl))) (fun ac hA => ?_) rfl rfl rfl
    refine x_assign hA (fun ac hA => ?_) rfl rfl rfl rfl rfl
    refine wpList_nil ?_
    cases hF
    exact ⟨_, N307_ _ rfl, hA.sub _ rfl, hS⟩
  replace hF := iff' hb311 hF
  refine wp_exit ?_
  cases hF
  exact hx307_0 x288 (T307_ _ rfl) ac w (hA.sub _ rfl) hS

set_option maxHeartbeats 4000000 in
theorem F_r05_Store_Read {r : World} {L : List HP} {w : World} (a0 : S53) (a1 : (List UInt8)) (g0 : Nat) (A0_0 : Option Addr) (n0_0 : Nat) (c0_0 : Nat) {y : ((List UInt8) × Int)} (hF : r05_Store_Read a0 a1 = some y) (hS : SH r (blk g0 53 [.slice A0_0 n0_0 c0_0, .int .i64 a0.f1, .int .i64 a0.f2, .bool a0.f3, .int .i64 a0.f4] :: own k62 62 A0_0 n0_0 c0_0 a0.f0 :: L) w) :
    Ret Try.prog 30 #[.pointer (some ⟨g0, 0, none⟩), str a1] w fun v w' => v = .tuple #[(str y.1), (.int .i64 y.2)] ∧ SH r (blk g0 53 [.slice A0_0 n0_0 c0_0, .int .i64 a0.f1, .int .i64 a0.f2, .bool a0.f3, .int .i64 a0.f4] :: own k62 62 A0_0 n0_0 c0_0 a0.f0 :: L) w' := by
  refine enter Try.func30 rfl Try.ntmps30 [(0, .pointer (some ⟨g0, 0, none⟩)), (1, str a1)] rfl (by simp) ?_
  intro ac hA Qf hQ hQn
  unfold r05_Store_Read at hF
  refine wp_seq_k fun K101 hK101 => ?_
  refine wp_reg ?_
  refine x_assign hA (fun ac hA => ?_) rfl rfl rfl rfl rfl
  refine x_assign hA (fun ac hA => ?_) rfl rfl rfl rfl rfl
  refine wpList_nil ?_
  refine hK101 _ _ ?_
  refine wp_seq_k fun K102 hK102 => ?_
  refine wp_seq_k fun K103 hK103 => ?_
  refine wp_reg ?_
  refine x_move hA (fun ac hA => ?_) rfl rfl rfl rfl rfl
  obtain ⟨y104, h105, hF⟩ := bnd hF
  refine x_call en33 hA (F_r05_Form (L := blk g0 53 [.slice A0_0 n0_0 c0_0, .int .i64 a0.f1, .int .i64 a0.f2, .bool a0.f3, .int .i64 a0.f4] :: own k62 62 A0_0 n0_0 c0_0 a0.f0 :: L) a1 h105 hS) (fun v ac w hR hA => ?_) rfl rfl rfl rfl rfl
  obtain ⟨rfl, hS⟩ := hR
  refine x_val hA (r_not rfl (hA.ev rfl)) (fun ac hA => ?_) rfl rfl rfl
  refine wpList_nil ?_
  refine hK103 _ _ ?_
  refine c_if hA rfl (fun hb106 => ?_) fun hb106 => ?_
  · replace hF := ift hb106 hF
    refine wp_seq_k fun K107 hK107 => ?_
    refine wp_reg ?_
    refine x_assign hA (fun ac hA => ?_) rfl rfl rfl rfl rfl
    refine x_assign hA (fun ac hA => ?_) rfl rfl rfl rfl rfl
    refine wpList_nil ?_
    refine hK107 _ _ ?_
    refine wp_ret ?_
    replace hS := hS.pk 1
    replace hS := hS.pk 1
    cases hF
    refine hQ _ _ ?_
    refine lv2 Try.results30 hA rfl rfl ?_
    exact ⟨rfl, hS⟩
  replace hF := iff' hb106 hF
  refine wp_skip ?_
  refine hK102 _ _ ?_
  refine wp_seq_k fun K108 hK108 => ?_
  refine wp_seq_k fun K109 hK109 => ?_
  refine wp_reg ?_
  refine x_move hA (fun ac hA => ?_) rfl rfl rfl rfl rfl
  refine x_val hA (r_nilCheck rfl (hA.ev rfl)) (fun ac hA => ?_) rfl rfl rfl
  refine x_fab fa53_3 hA (fun ac hA => ?_) rfl rfl rfl rfl rfl
  refine x_ld Try.underlying4 (hS.cell 0 rfl 3 _ rfl) hA (fun ac hA => ?_) rfl rfl rfl rfl rfl rfl
  refine wpList_nil ?_
  refine hK109 _ _ ?_
  refine c_if hA rfl (fun hb110 => ?_) fun hb110 => ?_
  · replace hF := ift hb110 hF
    refine wp_seq_k fun K111 hK111 => ?_
    refine wp_reg ?_
    refine x_assign hA (fun ac hA => ?_) rfl rfl rfl rfl rfl
    refine x_assign hA (fun ac hA => ?_) rfl rfl rfl rfl rfl
    refine wpList_nil ?_
    refine hK111 _ _ ?_
    refine wp_ret ?_
    replace hS := hS.pk 1
    replace hS := hS.pk 1
    cases hF
    refine hQ _ _ ?_
    refine lv2 Try.results30 hA rfl rfl ?_
    exact ⟨rfl, hS⟩
  replace hF := iff' hb110 hF
  refine wp_skip ?_
  refine hK108 _ _ ?_
  refine wp_seq_k fun K112 hK112 => ?_
  refine wp_reg ?_
  refine x_move hA (fun ac hA => ?_) rfl rfl rfl rfl rfl
  refine x_move hA (fun ac hA => ?_) rfl rfl rfl rfl rfl
  replace hS := hS.pk 1
  replace hS := hS.pk 1
  obtain ⟨y113, h114, hF⟩ := bnd hF
  refine x_call en47 hA (F_r05_Store_at (L := L) a0 a1 g0 A0_0 n0_0 c0_0 h114 hS) (fun v ac w hR hA => ?_) rfl rfl rfl rfl rfl
  obtain ⟨rfl, hS⟩ := hR
  refine x_assign hA (fun ac hA => ?_) rfl rfl rfl rfl rfl
  refine wpList_nil ?_
  refine hK112 _ _ ?_
  refine wp_seq_k fun K115 hK115 => ?_
  refine wp_seq_k fun K116 hK116 => ?_
  refine wp_reg ?_
  refine x_move hA (fun ac hA => ?_) rfl rfl rfl rfl rfl
  refine x_val hA (r_ltI rfl (hA.ev rfl) (hA.ev rfl)) (fun ac hA => ?_) rfl rfl rfl
  refine wpList_nil ?_
  refine hK116 _ _ ?_
  refine c_if hA rfl (fun hb117 => ?_) fun hb117 => ?_
  · replace hF := ift hb117 hF
    refine wp_seq_k fun K118 hK118 => ?_
    refine wp_reg ?_
    refine x_assign hA (fun ac hA => ?_) rfl rfl rfl rfl rfl
    refine x_assign hA (fun ac hA => ?_) rfl rfl rfl rfl rfl
    refine wpList_nil ?_
    refine hK118 _ _ ?_
    refine wp_ret ?_
    replace hS := hS.pk 1
    replace hS := hS.pk 1
    cases hF
    refine hQ _ _ ?_
    refine lv2 Try.results30 hA rfl rfl ?_
    exact ⟨rfl, hS⟩
  replace hF := iff' hb117 hF
  refine wp_skip ?_
  refine hK115 _ _ ?_
  refine wp_seq_k fun K119 hK119 => ?_
  refine wp_draw [0, 1, 3, 7, 0, 31, 63, 127, 0, 256, 768, 1792, 0, 7936, 16128, 32512, 65535, 131071, 262143] [] rfl hA hS (by kernel_rfl) (by kernel_rfl) (by kernel_rfl) (by kernel_rfl) fun w hS => ?_
  obtain ⟨x120, h121, hF⟩ := bnd hF
  obtain ⟨cs, hV, hc122⟩ := el (hS.rd 1 rfl) h121
  obtain rfl := hV
  obtain ⟨cs, hV, hc123⟩ := el (hS.rd 1 rfl) h121
  obtain rfl := hV
  obtain ⟨h124, hF⟩ := chk_some hF
  refine ⟨[(0, .pointer (some ⟨g0, 0, none⟩)), (1, .pointer (some ⟨g0, 0, none⟩)), (2, .pointer (some ⟨g0, 0, none⟩)), (3, .slice A0_0 n0_0 c0_0), (4, .int .i64 y113), (5, .pointer (some (ea A0_0 (y113.toNat * 3)))), (6, .pointer (some (ea A0_0 (y113.toNat * 3 + 1)))), (7, str x120.f1), (8, .pointer (some ⟨g0, 0, none⟩)), (9, .pointer (some ⟨g0, 0, none⟩)), (10, .pointer (some ⟨g0, 0, none⟩)), (11, .slice A0_0 n0_0 c0_0), (12, .int .i64 y113), (13, .pointer (some (ea A0_0 (y113.toNat * 3)))), (14, .pointer (some (ea A0_0 (y113.toNat * 3 + 2)))), (15, str x120.f2), (16, str (x120.f1 ++ x120.f2)), (17, str (x120.f1 ++ x120.f2)), (18, .int .i64 0)], ?_⟩
  refine dEnd [0, 1, 2, 3, 4, 5, 6, 7, 8, 9, 10, 11, 12, 13, 14, 15, 16, 17, 18] (by kernel_rfl) ⟨pu rfl rfl [(0, .pointer (some ⟨g0, 0, none⟩))] (fun ac hA => y_move hA rfl rfl) rfl rfl, pu rfl rfl [(19, .pointer (some ⟨g0, 0, none⟩))] (fun ac hA => r_nilCheck rfl (hA.ev rfl)) rfl rfl, pu rfl rfl [(20, .pointer (some ⟨g0, 0, none⟩))] (fun ac hA => y_fab fa53_0 hA rfl rfl) rfl rfl, pu rfl rfl [(21, .pointer (some ⟨g0, 0, none⟩))] (fun ac hA => y_ld Try.underlying51 (hS.cell 0 rfl 0 _ rfl) hA rfl rfl rfl) rfl rfl, pu rfl rfl [(6, .int .i64 y113)] (fun ac hA => y_move hA rfl rfl) rfl rfl, pu rfl rfl [(22, .slice A0_0 n0_0 c0_0), (23, .int .i64 y113)] (fun ac hA => y_ia Try.underlying51 sz62 (hS.rd 1 rfl) h121 hA rfl rfl rfl) rfl rfl, pu rfl rfl [(24, .pointer (some (ea A0_0 (y113.toNat * 3))))] (fun ac hA => y_fae (m := y113.toNat * 3) fa62_1 hA rfl rfl) rfl rfl, pu rfl rfl [(25, .pointer (some (ea A0_0 (y113.toNat * 3 + 1))))] (fun ac hA => y_ld Try.underlying9 (hc122 1 _ rfl) hA rfl rfl rfl) rfl rfl, pu rfl rfl [(0, .pointer (some ⟨g0, 0, none⟩))] (fun ac hA => y_move hA rfl rfl) rfl rfl, pu rfl rfl [(27, .pointer (some ⟨g0, 0, none⟩))] (fun ac hA => r_nilCheck rfl (hA.ev rfl)) rfl rfl, pu rfl rfl [(28, .pointer (some ⟨g0, 0, none⟩))] (fun ac hA => y_fab fa53_0 hA rfl rfl) rfl rfl, pu rfl rfl [(29, .pointer (some ⟨g0, 0, none⟩))] (fun ac hA => y_ld Try.underlying51 (hS.cell 0 rfl 0 _ rfl) hA rfl rfl rfl) rfl rfl, pu rfl rfl [(6, .int .i64 y113)] (fun ac hA => y_move hA rfl rfl) rfl rfl, pu rfl rfl [(30, .slice A0_0 n0_0 c0_0), (31, .int .i64 y113)] (fun ac hA => y_ia Try.underlying51 sz62 (hS.rd 1 rfl) h121 hA rfl rfl rfl) rfl rfl, pu rfl rfl [(32, .pointer (some (ea A0_0 (y113.toNat * 3))))] (fun ac hA => y_fae (m := y113.toNat * 3) fa62_2 hA rfl rfl) rfl rfl, pu rfl rfl [(33, .pointer (some (ea A0_0 (y113.toNat * 3 + 2))))] (fun ac hA => y_ld Try.underlying9 (hc123 2 _ rfl) hA rfl rfl rfl) rfl rfl, pu rfl rfl [(26, str x120.f1), (34, str x120.f2)] (fun ac hA => r_catS rfl (hA.ev rfl) (hA.ev rfl) h124) rfl rfl, pu rfl rfl [(35, str (x120.f1 ++ x120.f2))] (fun ac hA => y_assign hA rfl rfl) rfl rfl, pu rfl rfl [] (fun ac hA => y_assign hA rfl rfl) rfl rfl, trivial⟩ ⟨by kernel_rfl, by kernel_rfl⟩ [(0, .pointer (some ⟨g0, 0, none⟩)), (4, str (x120.f1 ++ x120.f2)), (5, .int .i64 0)] rfl (fun ac hA => ?_)
  refine hK119 _ _ ?_
  refine wp_ret ?_
  replace hS := hS.pk 1
  replace hS := hS.pk 1
  cases hF
  refine hQ _ _ ?_
  refine lv2 Try.results30 hA rfl rfl ?_
  exact ⟨rfl, hS⟩

set_option maxHeartbeats 4000000 in
theorem F_r05_Store_Append {r : World} {L : List HP} {w : World} (a0 : S53) (a1 : (List UInt8)) (a2 : (List Int)) (g0 : Nat) (A2 : Option Addr) (n2 : Nat) (c2 : Nat) {y : (Int × S53)} (hF : r05_Store_Append a0 a1 a2 = some y) (ha2 : RdL L (kI .u8) A2 n2 c2 a2) (hS : SH r (obj53 g0 a0 :: L) w) :
    Ret Try.prog 24 #[.pointer (some ⟨g0, 0, none⟩), str a1, .slice A2 n2 c2] w fun v w' => v = .int .i64 y.1 ∧ SH r (obj53 g0 y.2 :: L) w' := by
  refine enter Try.func24 rfl Try.ntmps24 [(0, .pointer (some ⟨g0, 0, none⟩)), (1, str a1), (2, .slice A2 n2 c2)] rfl (by simp) ?_
  intro ac hA Qf hQ hQn
  unfold r05_Store_Append at hF
  obtain ⟨A101, n102, c103, hS⟩ := obj53_open hS
  refine wp_seq_k fun K104 hK104 => ?_
  refine wp_reg ?_
  refine x_assign hA (fun ac hA => ?_) rfl rfl rfl rfl rfl
  refine wpList_nil ?_
  refine hK104 _ _ ?_
  refine wp_seq_k fun K105 hK105 => ?_
  refine wp_reg ?_
  refine x_move hA (fun ac hA => ?_) rfl rfl rfl rfl rfl
  refine x_move hA (fun ac hA => ?_) rfl rfl rfl rfl rfl
  replace hS := hS.pk 1
  replace hS := hS.pk 1
  obtain ⟨y106, h107, hF⟩ := bnd hF
  refine x_call en30 hA (F_r05_Store_Read (L := L) a0 a1 g0 A101 n102 c103 h107 hS) (fun v ac w hR hA => ?_) rfl rfl rfl rfl rfl
  obtain ⟨rfl, hS⟩ := hR
  refine x_move hA (fun ac hA => ?_) rfl rfl rfl rfl rfl
  refine x_val hA (r_extract rfl (hA.ev rfl) rfl) (fun ac hA => ?_) rfl rfl rfl
  refine x_val hA (r_extract rfl (hA.ev rfl) rfl) (fun ac hA => ?_) rfl rfl rfl
  refine x_assign hA (fun ac hA => ?_) rfl rfl rfl rfl rfl
  refine x_assign hA (fun ac hA => ?_) rfl rfl rfl rfl rfl
  refine wpList_nil ?_
  refine hK105 _ _ ?_
  refine wp_seq_k fun K108 hK108 => ?_
  refine wp_seq_k fun K109 hK109 => ?_
  have hj1 : ∀ (b111 : Bool), r05_Store_Append_j1 a0 a1 a2 y106 b111 = some y → ∀ (ac : Act) (w : World), FR 71 [] ac [(0, .pointer (some ⟨g0, 0, none⟩)), (1, str a1), (2, .slice A2 n2 c2), (8, .int .i64 y106.2), (22, .bool b111)] → SH r (blk g0 53 [.slice A101 n102 c103, .int .i64 a0.f1, .int .i64 a0.f2, .bool a0.f3, .int .i64 a0.f4] :: own k62 62 A101 n102 c103 a0.f0 :: L) w → K109 ac w := by
    intro b111 hF ac w hA hS
    unfold r05_Store_Append_j1 at hF
    refine hK109 _ _ ?_
    refine c_if hA rfl (fun hb112 => ?_) fun hb112 => ?_
    · replace hF := ift hb112 hF
      refine wp_seq_k fun K113 hK113 => ?_
      refine wp_reg ?_
      refine x_move hA (fun ac hA => ?_) rfl rfl rfl rfl rfl
      refine x_assign hA (fun ac hA => ?_) rfl rfl rfl rfl rfl
      refine wpList_nil ?_
      refine hK113 _ _ ?_
      refine wp_ret ?_
      replace hS := hS.pk 1
      replace hS := hS.pk 1
      replace hS := obj53_mk (x := a0) hS
      cases hF
      refine hQ _ _ ?_
      refine lv Try.results24 hA rfl ?_
      exact ⟨rfl, hS⟩
    replace hF := iff' hb112 hF
    refine wp_skip ?_
    refine hK108 _ _ ?_
    refine wp_seq_k fun K114 hK114 => ?_
    refine wp_seq_k fun K115 hK115 => ?_
    have hj2 : ∀ (b122 : Bool), r05_Store_Append_j2 a0 a1 a2 y106 b122 = some y → ∀ (ac : Act) (w : World), FR 71 [] ac [(0, .pointer (some ⟨g0, 0, none⟩)), (1, str a1), (2, .slice A2 n2 c2), (8, .int .i64 y106.2), (45, .bool b122)] → SH r (blk g0 53 [.slice A101 n102 c103, .int .i64 a0.f1, .int .i64 a0.f2, .bool a0.f3, .int .i64 a0.f4] :: own k62 62 A101 n102 c103 a0.f0 :: L) w → K115 ac w := by
      intro b122 hF ac w hA hS
      unfold r05_Store_Append_j2 at hF
      refine hK115 _ _ ?_
      refine c_if hA rfl (fun hb123 => ?_) fun hb123 => ?_
      · replace hF := ift hb123 hF
        refine wp_seq_k fun K124 hK124 => ?_
        refine wp_reg ?_
        refine x_assign hA (fun ac hA => ?_) rfl rfl rfl rfl rfl
        refine wpList_nil ?_
        refine hK124 _ _ ?_
        refine wp_ret ?_
        replace hS := hS.pk 1
        replace hS := hS.pk 1
        replace hS := obj53_mk (x := a0) hS
        cases hF
        refine hQ _ _ ?_
        refine lv Try.results24 hA rfl ?_
        exact ⟨rfl, hS⟩
      replace hF := iff' hb123 hF
      refine wp_skip ?_
      refine hK114 _ _ ?_
      refine wp_seq_k fun K125 hK125 => ?_
      refine wp_reg ?_
      refine x_move hA (fun ac hA => ?_) rfl rfl rfl rfl rfl
      replace hS := hS.pk 1
      replace hS := hS.pk 1
      replace hS := obj53_mk (x := a0) hS
      obtain ⟨y126, h127, hF⟩ := bnd hF
      refine x_call en45 hA (F_r05_Store_begin (L := L) a0 g0 h127 hS) (fun v ac w hR hA => ?_) rfl rfl rfl rfl rfl
      obtain ⟨rfl, hS⟩ := hR
      obtain ⟨A128, n129, c130, hS⟩ := obj53_open hS
      refine x_assign hA (fun ac hA => ?_) rfl rfl rfl rfl rfl
      refine wpList_nil ?_
      refine hK125 _ _ ?_
      refine wp_seq_k fun K131 hK131 => ?_
      have hj3 : ∀ (l139 : (List S62)) (x143 : Int) (x144 : Int) (b145 : Bool) (x146 : Int), r05_Store_Append_j3 a1 a2 y126 l139 x143 x144 b145 x146 = some y → ∀ (A140 : Option Addr) (n141 : Nat) (c142 : Nat) (ac : Act) (w : World), FR 71 [] ac [(0, .pointer (some ⟨g0, 0, none⟩)), (1, str a1), (2, .slice A2 n2 c2), (9, .int .i64 y126.1)] → SH r (blk g0 53 [.slice A140 n141 c142, .int .i64 x143, .int .i64 x144, .bool b145, .int .i64 x146] :: own k62 62 A140 n141 c142 l139 :: L) w → K131 ac w := by
        intro l139 x143 x144 b145 x146 hF A140 n141 c142 ac w hA hS
        unfold r05_Store_Append_j3 at hF
        refine hK131 _ _ ?_
        refine wp_seq_k fun K147 hK147 => ?_
        refine wp_reg ?_
        refine x_move hA (fun ac hA => ?_) rfl rfl rfl rfl rfl
        refine x_move hA (fun ac hA => ?_) rfl rfl rfl rfl rfl
        replace hS := hS.pk 1
        replace hS := hS.pk 1
        obtain ⟨y148, h149, hF⟩ := bnd hF
        refine x_call en47 hA (F_r05_Store_at (L := L) (⟨l139, x143, x144, b145, x146⟩ : S53) a1 g0 A140 n141 c142 h149 hS) (fun v ac w hR hA => ?_) rfl rfl rfl rfl rfl
        obtain ⟨rfl, hS⟩ := hR
        refine x_assign hA (fun ac hA => ?_) rfl rfl rfl rfl rfl
        refine wpList_nil ?_
        refine hK147 _ _ ?_
        refine wp_seq_k fun K150 hK150 => ?_
        refine wp_draw [0, 1, 3, 7, 0, 31, 63, 127, 0, 256, 1023, 2047, 4095, 8191] [13] rfl hA hS (by kernel_rfl) (by kernel_rfl) (by kernel_rfl) (by kernel_rfl) fun w hS => ?_
        obtain ⟨x151, h152, hF⟩ := bnd hF
        obtain ⟨cs, hV, hc153⟩ := el (hS.rd 1 rfl) h152
        obtain rfl := hV
        obtain ⟨h154, hF⟩ := chk_some hF
        refine ⟨[(0, .pointer (some ⟨g0, 0, none⟩)), (1, .pointer (some ⟨g0, 0, none⟩)), (2, .pointer (some ⟨g0, 0, none⟩)), (3, .slice A140 n141 c142), (4, .int .i64 y148), (5, .pointer (some (ea A140 (y148.toNat * 3)))), (6, .pointer (some (ea A140 (y148.toNat * 3 + 2)))), (7, str x151.f2), (8, .slice A2 n2 c2), (9, str (bts a2)), (10, str (x151.f2 ++ (bts a2))), (11, .pointer (some (ea A140 (y148.toNat * 3)))), (12, .pointer (some (ea A140 (y148.toNat * 3 + 2))))], ?_⟩
        refine dEff [0, 1, 2, 3, 4, 5, 6, 7, 8, 9, 10, 11, 12] [13] (by kernel_rfl) ⟨pu rfl rfl [(0, .pointer (some ⟨g0, 0, none⟩))] (fun ac hA => y_move hA rfl rfl) rfl rfl, pu rfl rfl [(57, .pointer (some ⟨g0, 0, none⟩))] (fun ac hA => r_nilCheck rfl (hA.ev rfl)) rfl rfl, pu rfl rfl [(58, .pointer (some ⟨g0, 0, none⟩))] (fun ac hA => y_fab fa53_0 hA rfl rfl) rfl rfl, pu rfl rfl [(59, .pointer (some ⟨g0, 0, none⟩))] (fun ac hA => y_ld Try.underlying51 (hS.cell 0 rfl 0 _ rfl) hA rfl rfl rfl) rfl rfl, pu rfl rfl [(10, .int .i64 y148)] (fun ac hA => y_move hA rfl rfl) rfl rfl, pu rfl rfl [(60, .slice A140 n141 c142), (61, .int .i64 y148)] (fun ac hA => y_ia Try.underlying51 sz62 (hS.rd 1 rfl) h152 hA rfl rfl rfl) rfl rfl, pu rfl rfl [(62, .pointer (some (ea A140 (y148.toNat * 3))))] (fun ac hA => y_fae (m := y148.toNat * 3) fa62_2 hA rfl rfl) rfl rfl, pu rfl rfl [(63, .pointer (some (ea A140 (y148.toNat * 3 + 2))))] (fun ac hA => y_ld Try.underlying9 (hc153 2 _ rfl) hA rfl rfl rfl) rfl rfl, pu rfl rfl [(2, .slice A2 n2 c2)] (fun ac hA => y_move hA rfl rfl) rfl rfl, pu rfl rfl [(65, .slice A2 n2 c2)] (fun ac hA => y_b2s Try.underlying22 Try.underlying5 Try.underlying9 (hS.rdl 2 ha2 rfl) hA rfl rfl) rfl rfl, pu rfl rfl [(64, str x151.f2), (66, str (bts a2))] (fun ac hA => r_catS rfl (hA.ev rfl) (hA.ev rfl) h154) rfl rfl, pu rfl rfl [(60, .slice A140 n141 c142), (61, .int .i64 y148)] (fun ac hA => y_ia Try.underlying51 sz62 (hS.rd 1 rfl) h152 hA rfl rfl rfl) rfl rfl, pu rfl rfl [(68, .pointer (some (ea A140 (y148.toNat * 3))))] (fun ac hA => y_fae (m := y148.toNat * 3) fa62_2 hA rfl rfl) rfl rfl, trivial⟩ (by kernel_rfl) (by kernel_rfl) ⟨ef rfl [(67, str (x151.f2 ++ (bts a2))), (69, .pointer (some (ea A140 (y148.toNat * 3 + 2))))] (fun ac hA K hK => ?_) rfl rfl, trivial⟩
        refine z_sto (z' := (⟨x151.f0, x151.f1, x151.f2 ++ (bts a2)⟩ : S62)) (off := 2) (vs := [str (x151.f2 ++ (bts a2))]) 1 sz9 hA hS rfl (at_some h152).2.2 (fun c h => by cases h; rfl) (fun  w hS => ?_) rfl rfl rfl rfl rfl rfl
        refine hK _ [] _ rfl ?_
        refine dEnd [] (by kernel_rfl) trivial ⟨by kernel_rfl, by kernel_rfl⟩ [(0, .pointer (some ⟨g0, 0, none⟩)), (9, .int .i64 y126.1)] rfl (fun ac hA => ?_)
        refine hK150 _ _ ?_
        refine wp_seq_k fun K155 hK155 => ?_
        refine wp_reg ?_
        refine x_move hA (fun ac hA => ?_) rfl rfl rfl rfl rfl
        refine x_assign hA (fun ac hA => ?_) rfl rfl rfl rfl rfl
        refine wpList_nil ?_
        refine hK155 _ _ ?_
        refine wp_ret ?_
        replace hS := hS.pk 1
        replace hS := obj53_mk (x := (⟨l139.set y148.toNat (⟨x151.f0, x151.f1, x151.f2 ++ (bts a2)⟩ : S62), x143, x144, b145, x146⟩ : S53)) hS
        cases hF
        refine hQ _ _ ?_
        refine lv Try.results24 hA rfl ?_
        exact ⟨rfl, hS⟩
      refine wp_seq_k fun K156 hK156 => ?_
      refine wp_reg ?_
      refine x_move hA (fun ac hA => ?_) rfl rfl rfl rfl rfl
      refine x_val hA (r_eqI rfl (hA.ev rfl) (hA.ev rfl)) (fun ac hA => ?_) rfl rfl rfl
      refine wpList_nil ?_
      refine hK156 _ _ ?_
      refine c_if hA rfl (fun hb157 => ?_) fun hb157 => ?_
      · replace hF := ift hb157 hF
        refine wp_reg ?_
        refine x_move hA (fun ac hA => ?_) rfl rfl rfl rfl rfl
        refine x_move hA (fun ac hA => ?_) rfl rfl rfl rfl rfl
        refine x_val (v := .agg #[str a1, str [], str []]) hA (r_build (ps := #[(0, str a1)]) rfl (mapev2 hA rfl) (fun w => by kernel_rfl)) (fun ac hA => ?_) rfl rfl rfl
        replace hS := hS.pk 1
        replace hS := hS.pk 1
        replace hS := obj53_mk (x := y126.2) hS
        obtain ⟨y158, h159, hF⟩ := bnd hF
        refine x_call en46 hA (F_r05_Store_put (L := L) y126.2 (⟨a1, [], []⟩ : S62) g0 h159 hS) (fun v ac w hR hA => ?_) rfl rfl rfl rfl rfl
        obtain ⟨rfl, hS⟩ := hR
        obtain ⟨A160, n161, c162, hS⟩ := obj53_open hS
        refine wpList_nil ?_
        exact hj3 y158.f0 y158.f1 y158.f2 y158.f3 y158.f4 hF A160 n161 c162 ac w (hA.sub _ rfl) hS
      replace hF := iff' hb157 hF
      refine wp_skip ?_
      exact hj3 y126.2.f0 y126.2.f1 y126.2.f2 y126.2.f3 y126.2.f4 hF A128 n129 c130 ac w (hA.sub _ rfl) hS
    refine wp_draw [0, 1, 0, 4, 15, 0, 32, 96, 224, 511, 1023, 2047, 4095, 8191, 16383, 32767, 65535, 131071, 262143, 524287, 1048575, 2097151] [1] rfl hA hS (by kernel_rfl) (by kernel_rfl) (by kernel_rfl) (by kernel_rfl) fun w hS => ?_
    refine ⟨[(0, .pointer (some ⟨g0, 0, none⟩)), (2, .slice A2 n2 c2), (3, .int .i64 (a2.length : Int)), (5, .pointer (some ⟨g0, 0, none⟩)), (6, .pointer (some ⟨g0, 0, none⟩)), (7, .pointer (some ⟨g0, 1, none⟩)), (8, .int .i64 a0.f1)], ?_⟩
    refine dEff [0, 2, 3, 5, 6, 7, 8] [1] (by kernel_rfl) ⟨pu rfl rfl [(0, .pointer (some ⟨g0, 0, none⟩))] (fun ac hA => y_move hA rfl rfl) rfl rfl, pu rfl rfl [(2, .slice A2 n2 c2)] (fun ac hA => y_move hA rfl rfl) rfl rfl, pu rfl rfl [(26, .slice A2 n2 c2)] (fun ac hA => y_len Try.underlying22 (hS.rdl 2 ha2 rfl).2.1 hA rfl rfl) rfl rfl, pu rfl rfl [(0, .pointer (some ⟨g0, 0, none⟩))] (fun ac hA => y_move hA rfl rfl) rfl rfl, pu rfl rfl [(29, .pointer (some ⟨g0, 0, none⟩))] (fun ac hA => r_nilCheck rfl (hA.ev rfl)) rfl rfl, pu rfl rfl [(30, .pointer (some ⟨g0, 0, none⟩))] (fun ac hA => y_fab fa53_1 hA rfl rfl) rfl rfl, pu rfl rfl [(31, .pointer (some ⟨g0, 1, none⟩))] (fun ac hA => y_ld Try.underlying3 (hS.cell 0 rfl 1 _ rfl) hA rfl rfl rfl) rfl rfl, trivial⟩ (by kernel_rfl) (by kernel_rfl) ⟨ef rfl [(24, .pointer (some ⟨g0, 0, none⟩))] (fun ac hA K hK => ?_) rfl rfl, trivial⟩
    replace hS := hS.pk 1
    replace hS := hS.pk 1
    obtain ⟨y163, h164, hF⟩ := bnd hF
    refine z_call en31 hA (F_r05_Store_Used (L := L) a0 g0 A101 n102 c103 h164 hS) (fun v w hR => ?_) rfl rfl
    obtain ⟨rfl, hS⟩ := hR
    obtain ⟨x165, h166, hF⟩ := ltt_ hF
    refine bcase (b := decide (a0.f1 < x165)) (fun hb167 => ?_) fun hb167 => ?_
    · replace hF := ift hb167 hF
      refine hK _ [(4, .int .i64 x165), (9, .bool (decide (a0.f1 < x165))), (10, .bool (decide (a0.f1 < x165))), (11, undef), (12, undef), (13, undef), (14, undef), (15, undef), (16, undef), (17, undef), (18, undef), (19, undef), (20, undef), (21, .bool true)] _ rfl ?_
      refine dEnd [2, 3, 4, 5, 6, 7, 8, 9, 10, 11, 12, 13, 14, 15, 16, 17, 18, 19, 20, 21] (by kernel_rfl) ⟨pu rfl rfl [(2, .slice A2 n2 c2)] (fun ac hA => y_move hA rfl rfl) rfl rfl, pu rfl rfl [(26, .slice A2 n2 c2)] (fun ac hA => y_len Try.underlying22 (hS.rdl 2 ha2 rfl).2.1 hA rfl rfl) rfl rfl, pu rfl rfl [(25, .int .i64 y163), (27, .int .i64 (a2.length : Int))] (fun ac hA => (rv_i h166 (r_add rfl (hA.ev rfl) (hA.ev rfl)) : RunV _ _ _ _ (.int .i64 x165))) rfl rfl, pu rfl rfl [(0, .pointer (some ⟨g0, 0, none⟩))] (fun ac hA => y_move hA rfl rfl) rfl rfl, pu rfl rfl [(29, .pointer (some ⟨g0, 0, none⟩))] (fun ac hA => r_nilCheck rfl (hA.ev rfl)) rfl rfl, pu rfl rfl [(30, .pointer (some ⟨g0, 0, none⟩))] (fun ac hA => y_fab fa53_1 hA rfl rfl) rfl rfl, pu rfl rfl [(31, .pointer (some ⟨g0, 1, none⟩))] (fun ac hA => y_ld Try.underlying3 (hS.cell 0 rfl 1 _ rfl) hA rfl rfl rfl) rfl rfl, pu rfl rfl [(28, .int .i64 x165), (32, .int .i64 a0.f1)] (fun ac hA => r_gtI rfl (hA.ev rfl) (hA.ev rfl)) rfl rfl, pu rfl rfl [(33, .bool (decide (a0.f1 < x165)))] (fun ac hA => y_move hA rfl rfl) rfl rfl, puOff rfl rfl rfl rfl [(8, .int .i64 y106.2), (34, .bool (decide (a0.f1 < x165)))] rfl hb167 rfl, puOff rfl rfl rfl rfl [(34, .bool (decide (a0.f1 < x165))), (35, undef)] rfl hb167 rfl, puOff rfl rfl rfl rfl [(34, .bool (decide (a0.f1 < x165))), (36, undef)] rfl hb167 rfl, puOffU rfl rfl rfl rfl [(0, .pointer (some ⟨g0, 0, none⟩)), (37, undef)] rfl rfl, puOffU rfl rfl rfl rfl [(37, undef), (38, undef)] rfl rfl, puOffU rfl rfl rfl rfl [(37, undef), (39, undef)] rfl rfl, puOffU rfl rfl rfl rfl [(37, undef), (40, undef)] rfl rfl, puOffU rfl rfl rfl rfl [(37, undef), (41, undef)] rfl rfl, puOffU rfl rfl rfl rfl [(37, undef), (42, undef)] rfl rfl, puOff rfl rfl rfl rfl [(34, .bool (decide (a0.f1 < x165))), (37, undef), (43, undef)] rfl hb167 rfl, pu rfl rfl [(34, .bool (decide (a0.f1 < x165))), (44, undef)] (fun ac hA => y_pickt hb167 hA rfl rfl rfl) rfl rfl, trivial⟩ ⟨by kernel_rfl, by kernel_rfl⟩ [(0, .pointer (some ⟨g0, 0, none⟩)), (1, str a1), (2, .slice A2 n2 c2), (8, .int .i64 y106.2), (45, .bool true)] rfl (fun ac hA => ?_)
      exact hj2 true hF ac w (hA.sub _ rfl) hS
    replace hF := iff' hb167 hF
    refine bcase (b := y106.2 == 5) (fun hb168 => ?_) fun hb168 => ?_
    · replace hF := ift hb168 hF
      refine hK _ [(4, .int .i64 x165), (9, .bool (decide (a0.f1 < x165))), (10, .bool (decide (a0.f1 < x165))), (11, .int .i64 y106.2), (12, .bool (y106.2 == 5)), (13, .bool (y106.2 == 5)), (14, .pointer (some ⟨g0, 0, none⟩)), (15, .pointer (some ⟨g0, 0, none⟩)), (16, .pointer (some ⟨g0, 0, none⟩)), (17, .slice A101 n102 c103), (18, .int .i64 (a0.f0.length : Int)), (19, .bool (decide (500 ≤ (a0.f0.length : Int)))), (20, .bool (decide (500 ≤ (a0.f0.length : Int)))), (21, .bool (decide (500 ≤ (a0.f0.length : Int))))] _ rfl ?_
      refine dEnd [2, 3, 4, 5, 6, 7, 8, 9, 10, 11, 12, 13, 14, 15, 16, 17, 18, 19, 20, 21] (by kernel_rfl) ⟨pu rfl rfl [(2, .slice A2 n2 c2)] (fun ac hA => y_move hA rfl rfl) rfl rfl, pu rfl rfl [(26, .slice A2 n2 c2)] (fun ac hA => y_len Try.underlying22 (hS.rdl 2 ha2 rfl).2.1 hA rfl rfl) rfl rfl, pu rfl rfl [(25, .int .i64 y163), (27, .int .i64 (a2.length : Int))] (fun ac hA => (rv_i h166 (r_add rfl (hA.ev rfl) (hA.ev rfl)) : RunV _ _ _ _ (.int .i64 x165))) rfl rfl, pu rfl rfl [(0, .pointer (some ⟨g0, 0, none⟩))] (fun ac hA => y_move hA rfl rfl) rfl rfl, pu rfl rfl [(29, .pointer (some ⟨g0, 0, none⟩))] (fun ac hA => r_nilCheck rfl (hA.ev rfl)) rfl rfl, pu rfl rfl [(30, .pointer (some ⟨g0, 0, none⟩))] (fun ac hA => y_fab fa53_1 hA rfl rfl) rfl rfl, pu rfl rfl [(31, .pointer (some ⟨g0, 1, none⟩))] (fun ac hA => y_ld Try.underlying3 (hS.cell 0 rfl 1 _ rfl) hA rfl rfl rfl) rfl rfl, pu rfl rfl [(28, .int .i64 x165), (32, .int .i64 a0.f1)] (fun ac hA => r_gtI rfl (hA.ev rfl) (hA.ev rfl)) rfl rfl, pu rfl rfl [(33, .bool (decide (a0.f1 < x165)))] (fun ac hA => y_move hA rfl rfl) rfl rfl, puOn rfl rfl rfl rfl [(8, .int .i64 y106.2), (34, .bool (decide (a0.f1 < x165)))] rfl hb167 (fun ac hA => y_move hA rfl rfl) rfl, puOn rfl rfl rfl rfl [(34, .bool (decide (a0.f1 < x165))), (35, .int .i64 y106.2)] rfl hb167 (fun ac hA => r_eqI rfl (hA.ev rfl) (hA.ev rfl)) rfl, puOn rfl rfl rfl rfl [(34, .bool (decide (a0.f1 < x165))), (36, .bool (y106.2 == 5))] rfl hb167 (fun ac hA => y_move hA rfl rfl) rfl, puOn rfl rfl rfl rfl [(0, .pointer (some ⟨g0, 0, none⟩)), (37, .bool (y106.2 == 5))] rfl hb168 (fun ac hA => y_move hA rfl rfl) rfl, puOn rfl rfl rfl rfl [(37, .bool (y106.2 == 5)), (38, .pointer (some ⟨g0, 0, none⟩))] rfl hb168 (fun ac hA => r_nilCheck rfl (hA.ev rfl)) rfl, puOn rfl rfl rfl rfl [(37, .bool (y106.2 == 5)), (39, .pointer (some ⟨g0, 0, none⟩))] rfl hb168 (fun ac hA => y_fab fa53_0 hA rfl rfl) rfl, puOn rfl rfl rfl rfl [(37, .bool (y106.2 == 5)), (40, .pointer (some ⟨g0, 0, none⟩))] rfl hb168 (fun ac hA => y_ld Try.underlying51 (hS.cell 0 rfl 0 _ rfl) hA rfl rfl rfl) rfl, puOn rfl rfl rfl rfl [(37, .bool (y106.2 == 5)), (41, .slice A101 n102 c103)] rfl hb168 (fun ac hA => y_len Try.underlying51 (hS.rd 1 rfl).2.1 hA rfl rfl) rfl, puOn rfl rfl rfl rfl [(37, .bool (y106.2 == 5)), (42, .int .i64 (a0.f0.length : Int))] rfl hb168 (fun ac hA => r_geI rfl (hA.ev rfl) (hA.ev rfl)) rfl, puOn rfl rfl rfl rfl [(34, .bool (decide (a0.f1 < x165))), (37, .bool (y106.2 == 5)), (43, .bool (decide (500 ≤ (a0.f0.length : Int))))] rfl hb167 (fun ac hA => y_pickt hb168 hA rfl rfl rfl) rfl, pu rfl rfl [(34, .bool (decide (a0.f1 < x165))), (44, .bool (decide (500 ≤ (a0.f0.length : Int))))] (fun ac hA => y_pickf hb167 hA rfl rfl rfl) rfl rfl, trivial⟩ ⟨by kernel_rfl, by kernel_rfl⟩ [(0, .pointer (some ⟨g0, 0, none⟩)), (1, str a1), (2, .slice A2 n2 c2), (8, .int .i64 y106.2), (45, .bool (decide (500 ≤ (a0.f0.length : Int))))] rfl (fun ac hA => ?_)
      exact hj2 (decide (500 ≤ (a0.f0.length : Int))) hF ac w (hA.sub _ rfl) hS
    replace hF := iff' hb168 hF
    refine hK _ [(4, .int .i64 x165), (9, .bool (decide (a0.f1 < x165))), (10, .bool (decide (a0.f1 < x165))), (11, .int .i64 y106.2), (12, .bool (y106.2 == 5)), (13, .bool (y106.2 == 5)), (14, undef), (15, undef), (16, undef), (17, undef), (18, undef), (19, undef), (20, .bool false), (21, .bool false)] _ rfl ?_
    refine dEnd [2, 3, 4, 5, 6, 7, 8, 9, 10, 11, 12, 13, 14, 15, 16, 17, 18, 19, 20, 21] (by kernel_rfl) ⟨pu rfl rfl [(2, .slice A2 n2 c2)] (fun ac hA => y_move hA rfl rfl) rfl rfl, pu rfl rfl [(26, .slice A2 n2 c2)] (fun ac hA => y_len Try.underlying22 (hS.rdl 2 ha2 rfl).2.1 hA rfl rfl) rfl rfl, pu rfl rfl [(25, .int .i64 y163), (27, .int .i64 (a2.length : Int))] (fun ac hA => (rv_i h166 (r_add rfl (hA.ev rfl) (hA.ev rfl)) : RunV _ _ _ _ (.int .i64 x165))) rfl rfl, pu rfl rfl [(0, .pointer (some ⟨g0, 0, none⟩))] (fun ac hA => y_move hA rfl rfl) rfl rfl, pu rfl rfl [(29, .pointer (some ⟨g0, 0, none⟩))] (fun ac hA => r_nilCheck rfl (hA.ev rfl)) rfl rfl, pu rfl rfl [(30, .pointer (some ⟨g0, 0, none⟩))] (fun ac hA => y_fab fa53_1 hA rfl rfl) rfl rfl, pu rfl rfl [(31, .pointer (some ⟨g0, 1, none⟩))] (fun ac hA => y_ld Try.underlying3 (hS.cell 0 rfl 1 _ rfl) hA rfl rfl rfl) rfl rfl, pu rfl rfl [(28, .int .i64 x165), (32, .int .i64 a0.f1)] (fun ac hA => r_gtI rfl (hA.ev rfl) (hA.ev rfl)) rfl rfl, pu rfl rfl [(33, .bool (decide (a0.f1 < x165)))] (fun ac hA => y_move hA rfl rfl) rfl rfl, puOn rfl rfl rfl rfl [(8, .int .i64 y106.2), (34, .bool (decide (a0.f1 < x165)))] rfl hb167 (fun ac hA => y_move hA rfl rfl) rfl, puOn rfl rfl rfl rfl [(34, .bool (decide (a0.f1 < x165))), (35, .int .i64 y106.2)] rfl hb167 (fun ac hA => r_eqI rfl (hA.ev rfl) (hA.ev rfl)) rfl, puOn rfl rfl rfl rfl [(34, .bool (decide (a0.f1 < x165))), (36, .bool (y106.2 == 5))] rfl hb167 (fun ac hA => y_move hA rfl rfl) rfl, puOff rfl rfl rfl rfl [(0, .pointer (some ⟨g0, 0, none⟩)), (37, .bool (y106.2 == 5))] rfl hb168 rfl, puOff rfl rfl rfl rfl [(37, .bool (y106.2 == 5)), (38, undef)] rfl hb168 rfl, puOff rfl rfl rfl rfl [(37, .bool (y106.2 == 5)), (39, undef)] rfl hb168 rfl, puOff rfl rfl rfl rfl [(37, .bool (y106.2 == 5)), (40, undef)] rfl hb168 rfl, puOff rfl rfl rfl rfl [(37, .bool (y106.2 == 5)), (41, undef)] rfl hb168 rfl, puOff rfl rfl rfl rfl [(37, .bool (y106.2 == 5)), (42, undef)] rfl hb168 rfl, puOn rfl rfl rfl rfl [(34, .bool (decide (a0.f1 < x165))), (37, .bool (y106.2 == 5)), (43, undef)] rfl hb167 (fun ac hA => y_pickf hb168 hA rfl rfl rfl) rfl, pu rfl rfl [(34, .bool (decide (a0.f1 < x165))), (44, .bool false)] (fun ac hA => y_pickf hb167 hA rfl rfl rfl) rfl rfl, trivial⟩ ⟨by kernel_rfl, by kernel_rfl⟩ [(0, .pointer (some ⟨g0, 0, none⟩)), (1, str a1), (2, .slice A2 n2 c2), (8, .int .i64 y106.2), (45, .bool false)] rfl (fun ac hA => ?_)
    exact hj2 false hF ac w (hA.sub _ rfl) hS
  refine wp_reg ?_
  refine x_move hA (fun ac hA => ?_) rfl rfl rfl rfl rfl
  refine x_val hA (r_eqI rfl (hA.ev rfl) (hA.ev rfl)) (fun ac hA => ?_) rfl rfl rfl
  refine x_move hA (fun ac hA => ?_) rfl rfl rfl rfl rfl
  refine bcase (b := y106.2 == 1) (fun hb169 => ?_) fun hb169 => ?_
  · replace hF := ift hb169 hF
    refine x_off hb169 hA (fun ac hA => ?_) rfl rfl rfl rfl rfl
    refine x_off hb169 hA (fun ac hA => ?_) rfl rfl rfl rfl rfl
    refine x_pickt hb169 hA (fun ac hA => ?_) rfl rfl rfl rfl rfl rfl
    refine wpList_nil ?_
    exact hj1 true hF ac w (hA.sub _ rfl) hS
  replace hF := iff' hb169 hF
  refine x_on hb169 hA ?_ rfl rfl rfl
  refine x_move hA (fun ac hA => ?_) rfl rfl rfl rfl rfl
  refine x_on hb169 hA ?_ rfl rfl rfl
  refine x_val hA (r_eqI rfl (hA.ev rfl) (hA.ev rfl)) (fun ac hA => ?_) rfl rfl rfl
  refine x_pickf hb169 hA (fun ac hA => ?_) rfl rfl rfl rfl rfl rfl
  refine wpList_nil ?_
  exact hj1 (y106.2 == 9) hF ac w (hA.sub _ rfl) hS

set_option maxHeartbeats 4000000 in
theorem F_r05_Store_Sync {r : World} {L : List HP} {w : World} (a0 : S53) (a1 : (List UInt8)) (g0 : Nat) {y : (Int × S53)} (hF : r05_Store_Sync a0 a1 = some y) (hS : SH r (obj53 g0 a0 :: L) w) :
    Ret Try.prog 25 #[.pointer (some ⟨g0, 0, none⟩), str a1] w fun v w' => v = .int .i64 y.1 ∧ SH r (obj53 g0 y.2 :: L) w' := by
  refine enter Try.func25 rfl Try.ntmps25 [(0, .pointer (some ⟨g0, 0, none⟩)), (1, str a1)] rfl (by simp) ?_
  intro ac hA Qf hQ hQn
  unfold r05_Store_Sync at hF
  obtain ⟨A101, n102, c103, hS⟩ := obj53_open hS
  refine wp_seq_k fun K104 hK104 => ?_
  refine wp_reg ?_
  refine x_assign hA (fun ac hA => ?_) rfl rfl rfl rfl rfl
  refine wpList_nil ?_
  refine hK104 _ _ ?_
  refine wp_seq_k fun K105 hK105 => ?_
  refine wp_reg ?_
  refine x_move hA (fun ac hA => ?_) rfl rfl rfl rfl rfl
  refine x_move hA (fun ac hA => ?_) rfl rfl rfl rfl rfl
  replace hS := hS.pk 1
  replace hS := hS.pk 1
  obtain ⟨y106, h107, hF⟩ := bnd hF
  refine x_call en30 hA (F_r05_Store_Read (L := L) a0 a1 g0 A101 n102 c103 h107 hS) (fun v ac w hR hA => ?_) rfl rfl rfl rfl rfl
  obtain ⟨rfl, hS⟩ := hR
  refine x_move hA (fun ac hA => ?_) rfl rfl rfl rfl rfl
  refine x_val hA (r_extract rfl (hA.ev rfl) rfl) (fun ac hA => ?_) rfl rfl rfl
  refine x_val hA (r_extract rfl (hA.ev rfl) rfl) (fun ac hA => ?_) rfl rfl rfl
  refine x_assign hA (fun ac hA => ?_) rfl rfl rfl rfl rfl
  refine x_assign hA (fun ac hA => ?_) rfl rfl rfl rfl rfl
  refine wpList_nil ?_
  refine hK105 _ _ ?_
  refine wp_seq_k fun K108 hK108 => ?_
  refine wp_seq_k fun K109 hK109 => ?_
  refine wp_reg ?_
  refine x_move hA (fun ac hA => ?_) rfl rfl rfl rfl rfl
  refine x_val hA (r_neI rfl (hA.ev rfl) (hA.ev rfl)) (fun ac hA => ?_) rfl rfl rfl
  refine wpList_nil ?_
  refine hK109 _ _ ?_
  refine c_if hA rfl (fun hb110 => ?_) fun hb110 => ?_
  · replace hF := ift hb110 hF
    refine wp_seq_k fun K111 hK111 => ?_
    refine wp_reg ?_
    refine x_move hA (fun ac hA => ?_) rfl rfl rfl rfl rfl
    refine x_assign hA (fun ac hA => ?_) rfl rfl rfl rfl rfl
    refine wpList_nil ?_
    refine hK111 _ _ ?_
    refine wp_ret ?_
    replace hS := hS.pk 1
    replace hS := hS.pk 1
    replace hS := obj53_mk (x := a0) hS
    cases hF
    refine hQ _ _ ?_
    refine lv Try.results25 hA rfl ?_
    exact ⟨rfl, hS⟩
  replace hF := iff' hb110 hF
  refine wp_skip ?_
  refine hK108 _ _ ?_
  refine wp_seq_k fun K112 hK112 => ?_
  refine wp_reg ?_
  refine x_move hA (fun ac hA => ?_) rfl rfl rfl rfl rfl
  replace hS := hS.pk 1
  replace hS := hS.pk 1
  replace hS := obj53_mk (x := a0) hS
  obtain ⟨y113, h114, hF⟩ := bnd hF
  refine x_call en45 hA (F_r05_Store_begin (L := L) a0 g0 h114 hS) (fun v ac w hR hA => ?_) rfl rfl rfl rfl rfl
  obtain ⟨rfl, hS⟩ := hR
  obtain ⟨A115, n116, c117, hS⟩ := obj53_open hS
  refine x_assign hA (fun ac hA => ?_) rfl rfl rfl rfl rfl
  refine wpList_nil ?_
  refine hK112 _ _ ?_
  refine wp_seq_k fun K118 hK118 => ?_
  have hj1 : ∀ (l132 : (List S62)), r05_Store_Sync_j1 y113 l132 = some y → ∀ (ac : Act) (w : World), FR 51 [] ac [(0, .pointer (some ⟨g0, 0, none⟩)), (6, .int .i64 y113.1)] → SH r (blk g0 53 [.slice A115 n116 c117, .int .i64 y113.2.f1, .int .i64 y113.2.f2, .bool y113.2.f3, .int .i64 y113.2.f4] :: own k62 62 A115 n116 c117 l132 :: L) w → K118 ac w := by
    intro l132 hF ac w hA hS
    unfold r05_Store_Sync_j1 at hF
    refine hK118 _ _ ?_
    refine wp_seq_k fun K133 hK133 => ?_
    refine wp_reg ?_
    refine x_move hA (fun ac hA => ?_) rfl rfl rfl rfl rfl
    refine x_assign hA (fun ac hA => ?_) rfl rfl rfl rfl rfl
    refine wpList_nil ?_
    refine hK133 _ _ ?_
    refine wp_ret ?_
    replace hS := hS.pk 1
    replace hS := hS.pk 1
    replace hS := obj53_mk (x := (⟨l132, y113.2.f1, y113.2.f2, y113.2.f3, y113.2.f4⟩ : S53)) hS
    cases hF
    refine hQ _ _ ?_
    refine lv Try.results25 hA rfl ?_
    exact ⟨rfl, hS⟩
  refine wp_seq_k fun K134 hK134 => ?_
  refine wp_reg ?_
  refine x_move hA (fun ac hA => ?_) rfl rfl rfl rfl rfl
  refine x_val hA (r_eqI rfl (hA.ev rfl) (hA.ev rfl)) (fun ac hA => ?_) rfl rfl rfl
  refine wpList_nil ?_
  refine hK134 _ _ ?_
  refine c_if hA rfl (fun hb135 => ?_) fun hb135 => ?_
  · replace hF := ift hb135 hF
    refine wp_seq_k fun K136 hK136 => ?_
    refine wp_reg ?_
    refine x_move hA (fun ac hA => ?_) rfl rfl rfl rfl rfl
    refine x_move hA (fun ac hA => ?_) rfl rfl rfl rfl rfl
    replace hS := hS.pk 1
    replace hS := hS.pk 1
    obtain ⟨y137, h138, hF⟩ := bnd hF
    refine x_call en47 hA (F_r05_Store_at (L := L) y113.2 a1 g0 A115 n116 c117 h138 hS) (fun v ac w hR hA => ?_) rfl rfl rfl rfl rfl
    obtain ⟨rfl, hS⟩ := hR
    refine x_assign hA (fun ac hA => ?_) rfl rfl rfl rfl rfl
    refine wpList_nil ?_
    refine hK136 _ _ ?_
    refine wp_seq_k fun K139 hK139 => ?_
    refine wp_draw [0, 1, 3, 7, 0, 31, 63, 127, 0, 256, 768, 1792, 0, 7936, 16128, 32512, 65535, 131071, 262143, 524287] [19] rfl hA hS (by kernel_rfl) (by kernel_rfl) (by kernel_rfl) (by kernel_rfl) fun w hS => ?_
    obtain ⟨x140, h141, hF⟩ := bnd hF
    obtain ⟨cs, hV, hc142⟩ := el (hS.rd 1 rfl) h141
    obtain rfl := hV
    obtain ⟨cs, hV, hc143⟩ := el (hS.rd 1 rfl) h141
    obtain rfl := hV
    obtain ⟨h144, hF⟩ := chk_some hF
    refine ⟨[(0, .pointer (some ⟨g0, 0, none⟩)), (1, .pointer (some ⟨g0, 0, none⟩)), (2, .pointer (some ⟨g0, 0, none⟩)), (3, .slice A115 n116 c117), (4, .int .i64 y137), (5, .pointer (some (ea A115 (y137.toNat * 3)))), (6, .pointer (some (ea A115 (y137.toNat * 3 + 1)))), (7, str x140.f1), (8, .pointer (some ⟨g0, 0, none⟩)), (9, .pointer (some ⟨g0, 0, none⟩)), (10, .pointer (some ⟨g0, 0, none⟩)), (11, .slice A115 n116 c117), (12, .int .i64 y137), (13, .pointer (some (ea A115 (y137.toNat * 3)))), (14, .pointer (some (ea A115 (y137.toNat * 3 + 2)))), (15, str x140.f2), (16, str (x140.f1 ++ x140.f2)), (17, .pointer (some (ea A115 (y137.toNat * 3)))), (18, .pointer (some (ea A115 (y137.toNat * 3 + 1))))], ?_⟩
    refine dEff [0, 1, 2, 3, 4, 5, 6, 7, 8, 9, 10, 11, 12, 13, 14, 15, 16, 17, 18] [19] (by kernel_rfl) ⟨pu rfl rfl [(0, .pointer (some ⟨g0, 0, none⟩))] (fun ac hA => y_move hA rfl rfl) rfl rfl, pu rfl rfl [(24, .pointer (some ⟨g0, 0, none⟩))] (fun ac hA => r_nilCheck rfl (hA.ev rfl)) rfl rfl, pu rfl rfl [(25, .pointer (some ⟨g0, 0, none⟩))] (fun ac hA => y_fab fa53_0 hA rfl rfl) rfl rfl, pu rfl rfl [(26, .pointer (some ⟨g0, 0, none⟩))] (fun ac hA => y_ld Try.underlying51 (hS.cell 0 rfl 0 _ rfl) hA rfl rfl rfl) rfl rfl, pu rfl rfl [(7, .int .i64 y137)] (fun ac hA => y_move hA rfl rfl) rfl rfl, pu rfl rfl [(27, .slice A115 n116 c117), (28, .int .i64 y137)] (fun ac hA => y_ia Try.underlying51 sz62 (hS.rd 1 rfl) h141 hA rfl rfl rfl) rfl rfl, pu rfl rfl [(29, .pointer (some (ea A115 (y137.toNat * 3))))] (fun ac hA => y_fae (m := y137.toNat * 3) fa62_1 hA rfl rfl) rfl rfl, pu rfl rfl [(30, .pointer (some (ea A115 (y137.toNat * 3 + 1))))] (fun ac hA => y_ld Try.underlying9 (hc142 1 _ rfl) hA rfl rfl rfl) rfl rfl, pu rfl rfl [(0, .pointer (some ⟨g0, 0, none⟩))] (fun ac hA => y_move hA rfl rfl) rfl rfl, pu rfl rfl [(32, .pointer (some ⟨g0, 0, none⟩))] (fun ac hA => r_nilCheck rfl (hA.ev rfl)) rfl rfl, pu rfl rfl [(33, .pointer (some ⟨g0, 0, none⟩))] (fun ac hA => y_fab fa53_0 hA rfl rfl) rfl rfl, pu rfl rfl [(34, .pointer (some ⟨g0, 0, none⟩))] (fun ac hA => y_ld Try.underlying51 (hS.cell 0 rfl 0 _ rfl) hA rfl rfl rfl) rfl rfl, pu rfl rfl [(7, .int .i64 y137)] (fun ac hA => y_move hA rfl rfl) rfl rfl, pu rfl rfl [(35, .slice A115 n116 c117), (36, .int .i64 y137)] (fun ac hA => y_ia Try.underlying51 sz62 (hS.rd 1 rfl) h141 hA rfl rfl rfl) rfl rfl, pu rfl rfl [(37, .pointer (some (ea A115 (y137.toNat * 3))))] (fun ac hA => y_fae (m := y137.toNat * 3) fa62_2 hA rfl rfl) rfl rfl, pu rfl rfl [(38, .pointer (some (ea A115 (y137.toNat * 3 + 2))))] (fun ac hA => y_ld Try.underlying9 (hc143 2 _ rfl) hA rfl rfl rfl) rfl rfl, pu rfl rfl [(31, str x140.f1), (39, str x140.f2)] (fun ac hA => r_catS rfl (hA.ev rfl) (hA.ev rfl) h144) rfl rfl, pu rfl rfl [(27, .slice A115 n116 c117), (28, .int .i64 y137)] (fun ac hA => y_ia Try.underlying51 sz62 (hS.rd 1 rfl) h141 hA rfl rfl rfl) rfl rfl, pu rfl rfl [(41, .pointer (some (ea A115 (y137.toNat * 3))))] (fun ac hA => y_fae (m := y137.toNat * 3) fa62_1 hA rfl rfl) rfl rfl, trivial⟩ (by kernel_rfl) (by kernel_rfl) ⟨ef rfl [(40, str (x140.f1 ++ x140.f2)), (42, .pointer (some (ea A115 (y137.toNat * 3 + 1))))] (fun ac hA K hK => ?_) rfl rfl, trivial⟩
    refine z_sto (z' := (⟨x140.f0, x140.f1 ++ x140.f2, x140.f2⟩ : S62)) (off := 1) (vs := [str (x140.f1 ++ x140.f2)]) 1 sz9 hA hS rfl (at_some h141).2.2 (fun c h => by cases h; rfl) (fun  w hS => ?_) rfl rfl rfl rfl rfl rfl
    refine hK _ [] _ rfl ?_
    refine dEnd [] (by kernel_rfl) trivial ⟨by kernel_rfl, by kernel_rfl⟩ [(0, .pointer (some ⟨g0, 0, none⟩)), (6, .int .i64 y113.1), (7, .int .i64 y137)] rfl (fun ac hA => ?_)
    refine hK139 _ _ ?_
    refine wp_reg ?_
    refine x_move hA (fun ac hA => ?_) rfl rfl rfl rfl rfl
    refine x_val hA (r_nilCheck rfl (hA.ev rfl)) (fun ac hA => ?_) rfl rfl rfl
    refine x_fab fa53_0 hA (fun ac hA => ?_) rfl rfl rfl rfl rfl
    refine x_ld Try.underlying51 (hS.cell 1 rfl 0 _ rfl) hA (fun ac hA => ?_) rfl rfl rfl rfl rfl rfl
    refine x_move hA (fun ac hA => ?_) rfl rfl rfl rfl rfl
    obtain ⟨x145, h146, hF⟩ := bnd hF
    refine x_ia Try.underlying51 sz62 (hS.rd 0 rfl) h146 hA (fun ac hA => ?_) rfl rfl rfl rfl rfl rfl
    refine x_fae (m := y137.toNat * 3) fa62_2 hA (fun ac hA => ?_) rfl rfl rfl rfl rfl
    refine x_sto (z' := (⟨x145.f0, x145.f1, []⟩ : S62)) (off := 2) (vs := [str []]) 0 sz9 hA hS rfl (at_some h146).2.2 (fun c h => by cases h; rfl) (fun  ac w hS hA => ?_) rfl rfl rfl rfl rfl rfl rfl rfl
    refine wpList_nil ?_
    replace hS := hS.pk 1
    exact hj1 ((y113.2.f0.set y137.toNat (⟨x140.f0, x140.f1 ++ x140.f2, x140.f2⟩ : S62)).set y137.toNat (⟨x145.f0, x145.f1, []⟩ : S62)) hF ac w (hA.sub _ rfl) hS
  replace hF := iff' hb135 hF
  refine wp_skip ?_
  exact hj1 y113.2.f0 hF ac w (hA.sub _ rfl) hS

set_option maxHeartbeats 4000000 in
theorem F_r05_Store_Delete {r : World} {L : List HP} {w : World} (a0 : S53) (a1 : (List UInt8)) (g0 : Nat) {y : (Int × S53)} (hF : r05_Store_Delete a0 a1 = some y) (hS : SH r (obj53 g0 a0 :: L) w) :
    Ret Try.prog 27 #[.pointer (some ⟨g0, 0, none⟩), str a1] w fun v w' => v = .int .i64 y.1 ∧ SH r (obj53 g0 y.2 :: L) w' := by
  refine enter Try.func27 rfl Try.ntmps27 [(0, .pointer (some ⟨g0, 0, none⟩)), (1, str a1)] rfl (by simp) ?_
  intro ac hA Qf hQ hQn
  unfold r05_Store_Delete at hF
  obtain ⟨A101, n102, c103, hS⟩ := obj53_open hS
  refine wp_seq_k fun K104 hK104 => ?_
  refine wp_reg ?_
  refine x_assign hA (fun ac hA => ?_) rfl rfl rfl rfl rfl
  refine wpList_nil ?_
  refine hK104 _ _ ?_
  refine wp_seq_k fun K105 hK105 => ?_
  refine wp_reg ?_
  refine x_move hA (fun ac hA => ?_) rfl rfl rfl rfl rfl
  refine x_move hA (fun ac hA => ?_) rfl rfl rfl rfl rfl
  replace hS := hS.pk 1
  replace hS := hS.pk 1
  obtain ⟨y106, h107, hF⟩ := bnd hF
  refine x_call en30 hA (F_r05_Store_Read (L := L) a0 a1 g0 A101 n102 c103 h107 hS) (fun v ac w hR hA => ?_) rfl rfl rfl rfl rfl
  obtain ⟨rfl, hS⟩ := hR
  refine x_move hA (fun ac hA => ?_) rfl rfl rfl rfl rfl
  refine x_val hA (r_extract rfl (hA.ev rfl) rfl) (fun ac hA => ?_) rfl rfl rfl
  refine x_val hA (r_extract rfl (hA.ev rfl) rfl) (fun ac hA => ?_) rfl rfl rfl
  refine x_assign hA (fun ac hA => ?_) rfl rfl rfl rfl rfl
  refine x_assign hA (fun ac hA => ?_) rfl rfl rfl rfl rfl
  refine wpList_nil ?_
  refine hK105 _ _ ?_
  refine wp_seq_k fun K108 hK108 => ?_
  refine wp_seq_k fun K109 hK109 => ?_
  refine wp_reg ?_
  refine x_move hA (fun ac hA => ?_) rfl rfl rfl rfl rfl
  refine x_val hA (r_neI rfl (hA.ev rfl) (hA.ev rfl)) (fun ac hA => ?_) rfl rfl rfl
  refine wpList_nil ?_
  refine hK109 _ _ ?_
  refine c_if hA rfl (fun hb110 => ?_) fun hb110 => ?_
  · replace hF := ift hb110 hF
    refine wp_seq_k fun K111 hK111 => ?_
    refine wp_reg ?_
    refine x_move hA (fun ac hA => ?_) rfl rfl rfl rfl rfl
    refine x_assign hA (fun ac hA => ?_) rfl rfl rfl rfl rfl
    refine wpList_nil ?_
    refine hK111 _ _ ?_
    refine wp_ret ?_
    replace hS := hS.pk 1
    replace hS := hS.pk 1
    replace hS := obj53_mk (x := a0) hS
    cases hF
    refine hQ _ _ ?_
    refine lv Try.results27 hA rfl ?_
    exact ⟨rfl, hS⟩
  replace hF := iff' hb110 hF
  refine wp_skip ?_
  refine hK108 _ _ ?_
  refine wp_seq_k fun K112 hK112 => ?_
  refine wp_reg ?_
  refine x_move hA (fun ac hA => ?_) rfl rfl rfl rfl rfl
  replace hS := hS.pk 1
  replace hS := hS.pk 1
  replace hS := obj53_mk (x := a0) hS
  obtain ⟨y113, h114, hF⟩ := bnd hF
  refine x_call en45 hA (F_r05_Store_begin (L := L) a0 g0 h114 hS) (fun v ac w hR hA => ?_) rfl rfl rfl rfl rfl
  obtain ⟨rfl, hS⟩ := hR
  obtain ⟨A115, n116, c117, hS⟩ := obj53_open hS
  refine x_assign hA (fun ac hA => ?_) rfl rfl rfl rfl rfl
  refine wpList_nil ?_
  refine hK112 _ _ ?_
  refine wp_seq_k fun K118 hK118 => ?_
  have hj1 : ∀ (l128 : (List S62)) (x132 : Int) (x133 : Int) (b134 : Bool) (x135 : Int), r05_Store_Delete_j1 y113 l128 x132 x133 b134 x135 = some y → ∀ (A129 : Option Addr) (n130 : Nat) (c131 : Nat) (ac : Act) (w : World), FR 26 [] ac [(0, .pointer (some ⟨g0, 0, none⟩)), (6, .int .i64 y113.1)] → SH r (blk g0 53 [.slice A129 n130 c131, .int .i64 x132, .int .i64 x133, .bool b134, .int .i64 x135] :: own k62 62 A129 n130 c131 l128 :: L) w → K118 ac w := by
    intro l128 x132 x133 b134 x135 hF A129 n130 c131 ac w hA hS
    unfold r05_Store_Delete_j1 at hF
    refine hK118 _ _ ?_
    refine wp_seq_k fun K136 hK136 => ?_
    refine wp_reg ?_
    refine x_move hA (fun ac hA => ?_) rfl rfl rfl rfl rfl
    refine x_assign hA (fun ac hA => ?_) rfl rfl rfl rfl rfl
    refine wpList_nil ?_
    refine hK136 _ _ ?_
    refine wp_ret ?_
    replace hS := hS.pk 1
    replace hS := hS.pk 1
    replace hS := obj53_mk (x := (⟨l128, x132, x133, b134, x135⟩ : S53)) hS
    cases hF
    refine hQ _ _ ?_
    refine lv Try.results27 hA rfl ?_
    exact ⟨rfl, hS⟩
  refine wp_seq_k fun K137 hK137 => ?_
  refine wp_reg ?_
  refine x_move hA (fun ac hA => ?_) rfl rfl rfl rfl rfl
  refine x_val hA (r_eqI rfl (hA.ev rfl) (hA.ev rfl)) (fun ac hA => ?_) rfl rfl rfl
  refine wpList_nil ?_
  refine hK137 _ _ ?_
  refine c_if hA rfl (fun hb138 => ?_) fun hb138 => ?_
  · replace hF := ift hb138 hF
    refine wp_reg ?_
    refine x_move hA (fun ac hA => ?_) rfl rfl rfl rfl rfl
    refine x_move hA (fun ac hA => ?_) rfl rfl rfl rfl rfl
    refine x_move hA (fun ac hA => ?_) rfl rfl rfl rfl rfl
    replace hS := hS.pk 1
    replace hS := hS.pk 1
    obtain ⟨y139, h140, hF⟩ := bnd hF
    refine x_call en47 hA (F_r05_Store_at (L := L) y113.2 a1 g0 A115 n116 c117 h140 hS) (fun v ac w hR hA => ?_) rfl rfl rfl rfl rfl
    obtain ⟨rfl, hS⟩ := hR
    replace hS := hS.pk 1
    replace hS := hS.pk 1
    replace hS := obj53_mk (x := y113.2) hS
    obtain ⟨y141, h142, hF⟩ := bnd hF
    refine x_call en48 hA (F_r05_Store_drop (L := L) y113.2 y139 g0 h142 hS) (fun v ac w hR hA => ?_) rfl rfl rfl rfl rfl
    obtain ⟨rfl, hS⟩ := hR
    obtain ⟨A143, n144, c145, hS⟩ := obj53_open hS
    refine wpList_nil ?_
    exact hj1 y141.f0 y141.f1 y141.f2 y141.f3 y141.f4 hF A143 n144 c145 ac w (hA.sub _ rfl) hS
  replace hF := iff' hb138 hF
  refine wp_skip ?_
  exact hj1 y113.2.f0 y113.2.f1 y113.2.f2 y113.2.f3 y113.2.f4 hF A115 n116 c117 ac w (hA.sub _ rfl) hS

set_option maxHeartbeats 4000000 in
theorem F_r05_Store_Rename {r : World} {L : List HP} {w : World} (a0 : S53) (a1 : (List UInt8)) (a2 : (List UInt8)) (g0 : Nat) {y : (Int × S53)} (hF : r05_Store_Rename a0 a1 a2 = some y) (hS : SH r (obj53 g0 a0 :: L) w) :
    Ret Try.prog 26 #[.pointer (some ⟨g0, 0, none⟩), str a1, str a2] w fun v w' => v = .int .i64 y.1 ∧ SH r (obj53 g0 y.2 :: L) w' := by
  refine enter Try.func26 rfl Try.ntmps26 [(0, .pointer (some ⟨g0, 0, none⟩)), (1, str a1), (2, str a2)] rfl (by simp) ?_
  intro ac hA Qf hQ hQn
  unfold r05_Store_Rename at hF
  obtain ⟨A101, n102, c103, hS⟩ := obj53_open hS
  refine wp_seq_k fun K104 hK104 => ?_
  refine wp_reg ?_
  refine x_assign hA (fun ac hA => ?_) rfl rfl rfl rfl rfl
  refine wpList_nil ?_
  refine hK104 _ _ ?_
  refine wp_seq_k fun K105 hK105 => ?_
  refine wp_seq_k fun K106 hK106 => ?_
  have hj1 : ∀ (b112 : Bool), r05_Store_Rename_j1 a0 a1 a2 b112 = some y → ∀ (ac : Act) (w : World), FR 60 [] ac [(0, .pointer (some ⟨g0, 0, none⟩)), (1, str a1), (2, str a2), (17, .bool b112)] → SH r (blk g0 53 [.slice A101 n102 c103, .int .i64 a0.f1, .int .i64 a0.f2, .bool a0.f3, .int .i64 a0.f4] :: own k62 62 A101 n102 c103 a0.f0 :: L) w → K106 ac w := by
    intro b112 hF ac w hA hS
    unfold r05_Store_Rename_j1 at hF
    refine hK106 _ _ ?_
    refine c_if hA rfl (fun hb113 => ?_) fun hb113 => ?_
    · replace hF := ift hb113 hF
      refine wp_seq_k fun K114 hK114 => ?_
      refine wp_reg ?_
      refine x_assign hA (fun ac hA => ?_) rfl rfl rfl rfl rfl
      refine wpList_nil ?_
      refine hK114 _ _ ?_
      refine wp_ret ?_
      replace hS := hS.pk 1
      replace hS := hS.pk 1
      replace hS := obj53_mk (x := a0) hS
      cases hF
      refine hQ _ _ ?_
      refine lv Try.results26 hA rfl ?_
      exact ⟨rfl, hS⟩
    replace hF := iff' hb113 hF
    refine wp_skip ?_
    refine hK105 _ _ ?_
    refine wp_seq_k fun K115 hK115 => ?_
    refine wp_reg ?_
    refine x_move hA (fun ac hA => ?_) rfl rfl rfl rfl rfl
    refine x_move hA (fun ac hA => ?_) rfl rfl rfl rfl rfl
    replace hS := hS.pk 1
    replace hS := hS.pk 1
    obtain ⟨y116, h117, hF⟩ := bnd hF
    refine x_call en30 hA (F_r05_Store_Read (L := L) a0 a1 g0 A101 n102 c103 h117 hS) (fun v ac w hR hA => ?_) rfl rfl rfl rfl rfl
    obtain ⟨rfl, hS⟩ := hR
    refine x_move hA (fun ac hA => ?_) rfl rfl rfl rfl rfl
    refine x_val hA (r_extract rfl (hA.ev rfl) rfl) (fun ac hA => ?_) rfl rfl rfl
    refine x_val hA (r_extract rfl (hA.ev rfl) rfl) (fun ac hA => ?_) rfl rfl rfl
    refine x_assign hA (fun ac hA => ?_) rfl rfl rfl rfl rfl
    refine x_assign hA (fun ac hA => ?_) rfl rfl rfl rfl rfl
    refine wpList_nil ?_
    refine hK115 _ _ ?_
    refine wp_seq_k fun K118 hK118 => ?_
    refine wp_seq_k fun K119 hK119 => ?_
    refine wp_reg ?_
    refine x_move hA (fun ac hA => ?_) rfl rfl rfl rfl rfl
    refine x_val hA (r_neI rfl (hA.ev rfl) (hA.ev rfl)) (fun ac hA => ?_) rfl rfl rfl
    refine wpList_nil ?_
    refine hK119 _ _ ?_
    refine c_if hA rfl (fun hb120 => ?_) fun hb120 => ?_
    · replace hF := ift hb120 hF
      refine wp_seq_k fun K121 hK121 => ?_
      refine wp_reg ?_
      refine x_move hA (fun ac hA => ?_) rfl rfl rfl rfl rfl
      refine x_assign hA (fun ac hA => ?_) rfl rfl rfl rfl rfl
      refine wpList_nil ?_
      refine hK121 _ _ ?_
      refine wp_ret ?_
      replace hS := hS.pk 1
      replace hS := hS.pk 1
      replace hS := obj53_mk (x := a0) hS
      cases hF
      refine hQ _ _ ?_
      refine lv Try.results26 hA rfl ?_
      exact ⟨rfl, hS⟩
    replace hF := iff' hb120 hF
    refine wp_skip ?_
    refine hK118 _ _ ?_
    refine wp_seq_k fun K122 hK122 => ?_
    refine wp_reg ?_
    refine x_move hA (fun ac hA => ?_) rfl rfl rfl rfl rfl
    replace hS := hS.pk 1
    replace hS := hS.pk 1
    replace hS := obj53_mk (x := a0) hS
    obtain ⟨y123, h124, hF⟩ := bnd hF
    refine x_call en45 hA (F_r05_Store_begin (L := L) a0 g0 h124 hS) (fun v ac w hR hA => ?_) rfl rfl rfl rfl rfl
    obtain ⟨rfl, hS⟩ := hR
    obtain ⟨A125, n126, c127, hS⟩ := obj53_open hS
    refine x_assign hA (fun ac hA => ?_) rfl rfl rfl rfl rfl
    refine wpList_nil ?_
    refine hK122 _ _ ?_
    refine wp_seq_k fun K128 hK128 => ?_
    refine wp_seq_k fun K129 hK129 => ?_
    refine wp_reg ?_
    refine x_move hA (fun ac hA => ?_) rfl rfl rfl rfl rfl
    refine x_val hA (r_neI rfl (hA.ev rfl) (hA.ev rfl)) (fun ac hA => ?_) rfl rfl rfl
    refine wpList_nil ?_
    refine hK129 _ _ ?_
    refine c_if hA rfl (fun hb130 => ?_) fun hb130 => ?_
    · replace hF := ift hb130 hF
      refine wp_seq_k fun K131 hK131 => ?_
      refine wp_reg ?_
      refine x_move hA (fun ac hA => ?_) rfl rfl rfl rfl rfl
      refine x_assign hA (fun ac hA => ?_) rfl rfl rfl rfl rfl
      refine wpList_nil ?_
      refine hK131 _ _ ?_
      refine wp_ret ?_
      replace hS := hS.pk 1
      replace hS := hS.pk 1
      replace hS := obj53_mk (x := y123.2) hS
      cases hF
      refine hQ _ _ ?_
      refine lv Try.results26 hA rfl ?_
      exact ⟨rfl, hS⟩
    replace hF := iff' hb130 hF
    refine wp_skip ?_
    refine hK128 _ _ ?_
    refine wp_seq_k fun K132 hK132 => ?_
    have hj2 : ∀ (s147 : (List UInt8)) (s148 : (List UInt8)) (s149 : (List UInt8)), r05_Store_Rename_j2 a1 a2 y123 s147 s148 s149 = some y → ∀ (g146 : Nat) (ac : Act) (w : World), FR 60 [] ac [(0, .pointer (some ⟨g0, 0, none⟩)), (1, str a1), (2, str a2), (9, .pointer (some ⟨g146, 0, none⟩))] → SH r (blk g0 53 [.slice A125 n126 c127, .int .i64 y123.2.f1, .int .i64 y123.2.f2, .bool y123.2.f3, .int .i64 y123.2.f4] :: blk g146 62 [str s147, str s148, str s149] :: own k62 62 A125 n126 c127 y123.2.f0 :: L) w → K132 ac w := by
      intro s147 s148 s149 hF g146 ac w hA hS
      unfold r05_Store_Rename_j2 at hF
      refine hK132 _ _ ?_
      refine wp_seq_k fun K150 hK150 => ?_
      refine wp_reg ?_
      refine x_move hA (fun ac hA => ?_) rfl rfl rfl rfl rfl
      refine x_move hA (fun ac hA => ?_) rfl rfl rfl rfl rfl
      refine x_move hA (fun ac hA => ?_) rfl rfl rfl rfl rfl
      replace hS := hS.pk 2
      replace hS := hS.pk 1
      obtain ⟨y151, h152, hF⟩ := bnd hF
      refine x_call en47 hA (F_r05_Store_at (L := blk g146 62 [str s147, str s148, str s149] :: L) y123.2 a1 g0 A125 n126 c127 h152 hS) (fun v ac w hR hA => ?_) rfl rfl rfl rfl rfl
      obtain ⟨rfl, hS⟩ := hR
      replace hS := hS.pk 1
      replace hS := hS.pk 1
      replace hS := obj53_mk (x := y123.2) hS
      obtain ⟨y153, h154, hF⟩ := bnd hF
      refine x_call en48 hA (F_r05_Store_drop (L := blk g146 62 [str s147, str s148, str s149] :: L) y123.2 y151 g0 h154 hS) (fun v ac w hR hA => ?_) rfl rfl rfl rfl rfl
      obtain ⟨rfl, hS⟩ := hR
      obtain ⟨A155, n156, c157, hS⟩ := obj53_open hS
      refine wpList_nil ?_
      refine hK150 _ _ ?_
      refine wp_seq_k fun K158 hK158 => ?_
      have hj3 : ∀ (l170 : (List S62)) (x174 : Int) (x175 : Int) (b176 : Bool) (x177 : Int), r05_Store_Rename_j3 a2 s148 s149 l170 x174 x175 b176 x177 = some y → ∀ (A171 : Option Addr) (n172 : Nat) (c173 : Nat) (ac : Act) (w : World), FR 60 [] ac [(0, .pointer (some ⟨g0, 0, none⟩)), (2, str a2), (9, .pointer (some ⟨g146, 0, none⟩))] → SH r (blk g0 53 [.slice A171 n172 c173, .int .i64 x174, .int .i64 x175, .bool b176, .int .i64 x177] :: blk g146 62 [str s147, str s148, str s149] :: own k62 62 A171 n172 c173 l170 :: L) w → K158 ac w := by
        intro l170 x174 x175 b176 x177 hF A171 n172 c173 ac w hA hS
        unfold r05_Store_Rename_j3 at hF
        refine hK158 _ _ ?_
        refine wp_seq_k fun K178 hK178 => ?_
        refine wp_reg ?_
        refine x_move hA (fun ac hA => ?_) rfl rfl rfl rfl rfl
        refine x_fab fa62_0 hA (fun ac hA => ?_) rfl rfl rfl rfl rfl
        refine x_stb 1 sz9 hA hS rfl (fun  ac w hS hA => ?_) rfl rfl rfl rfl rfl rfl rfl rfl
        refine wpList_nil ?_
        refine hK178 _ _ ?_
        refine wp_seq_k fun K179 hK179 => ?_
        refine wp_reg ?_
        refine x_move hA (fun ac hA => ?_) rfl rfl rfl rfl rfl
        refine x_lda (ad := ⟨g146, 0, none⟩) (cs := [str a2, str s148, str s149]) Try.underlying62 sz62 (fun j u h => by rw [add_mk, Nat.zero_add]; exact hS.cell 0 rfl j u h) hA (fun ac hA => ?_) rfl rfl rfl rfl rfl rfl
        replace hS := hS.pk 2
        replace hS := hS.pk 2
        replace hS := obj53_mk (x := (⟨l170, x174, x175, b176, x177⟩ : S53)) hS
        obtain ⟨y180, h181, hF⟩ := bnd hF
        refine x_call en46 hA (F_r05_Store_put (L := blk g146 62 [str a2, str s148, str s149] :: L) (⟨l170, x174, x175, b176, x177⟩ : S53) (⟨a2, s148, s149⟩ : S62) g0 h181 hS) (fun v ac w hR hA => ?_) rfl rfl rfl rfl rfl
        obtain ⟨rfl, hS⟩ := hR
        obtain ⟨A182, n183, c184, hS⟩ := obj53_open hS
        refine wpList_nil ?_
        refine hK179 _ _ ?_
        refine wp_seq_k fun K185 hK185 => ?_
        refine wp_reg ?_
        refine x_assign hA (fun ac hA => ?_) rfl rfl rfl rfl rfl
        refine wpList_nil ?_
        refine hK185 _ _ ?_
        refine wp_ret ?_
        replace hS := hS.pk 1
        replace hS := hS.pk 1
        replace hS := obj53_mk (x := y180) hS
        replace hS := hS.drop 1
        cases hF
        refine hQ _ _ ?_
        refine lv Try.results26 hA rfl ?_
        exact ⟨rfl, hS⟩
      refine wp_seq_k fun K186 hK186 => ?_
      refine wp_reg ?_
      refine x_move hA (fun ac hA => ?_) rfl rfl rfl rfl rfl
      refine x_move hA (fun ac hA => ?_) rfl rfl rfl rfl rfl
      replace hS := hS.pk 1
      replace hS := hS.pk 1
      obtain ⟨y187, h188, hF⟩ := bnd hF
      refine x_call en47 hA (F_r05_Store_at (L := blk g146 62 [str s147, str s148, str s149] :: L) y153 a2 g0 A155 n156 c157 h188 hS) (fun v ac w hR hA => ?_) rfl rfl rfl rfl rfl
      obtain ⟨rfl, hS⟩ := hR
      refine x_val hA (r_geI rfl (hA.ev rfl) (hA.ev rfl)) (fun ac hA => ?_) rfl rfl rfl
      refine wpList_nil ?_
      refine hK186 _ _ ?_
      refine c_if hA rfl (fun hb189 => ?_) fun hb189 => ?_
      · replace hF := ift hb189 hF
        refine wp_reg ?_
        refine x_move hA (fun ac hA => ?_) rfl rfl rfl rfl rfl
        refine x_move hA (fun ac hA => ?_) rfl rfl rfl rfl rfl
        refine x_move hA (fun ac hA => ?_) rfl rfl rfl rfl rfl
        replace hS := hS.pk 1
        replace hS := hS.pk 1
        obtain ⟨y190, h191, hF⟩ := bnd hF
        refine x_call en47 hA (F_r05_Store_at (L := blk g146 62 [str s147, str s148, str s149] :: L) y153 a2 g0 A155 n156 c157 h191 hS) (fun v ac w hR hA => ?_) rfl rfl rfl rfl rfl
        obtain ⟨rfl, hS⟩ := hR
        replace hS := hS.pk 1
        replace hS := hS.pk 1
        replace hS := obj53_mk (x := y153) hS
        obtain ⟨y192, h193, hF⟩ := bnd hF
        refine x_call en48 hA (F_r05_Store_drop (L := blk g146 62 [str s147, str s148, str s149] :: L) y153 y190 g0 h193 hS) (fun v ac w hR hA => ?_) rfl rfl rfl rfl rfl
        obtain ⟨rfl, hS⟩ := hR
        obtain ⟨A194, n195, c196, hS⟩ := obj53_open hS
        refine wpList_nil ?_
        replace hS := hS.pk 1
        replace hS := hS.pk 2
        replace hS := hS.pk 2
        exact hj3 y192.f0 y192.f1 y192.f2 y192.f3 y192.f4 hF A194 n195 c196 ac w (hA.sub _ rfl) hS
      replace hF := iff' hb189 hF
      refine wp_skip ?_
      replace hS := hS.pk 1
      replace hS := hS.pk 2
      replace hS := hS.pk 2
      exact hj3 y153.f0 y153.f1 y153.f2 y153.f3 y153.f4 hF A155 n156 c157 ac w (hA.sub _ rfl) hS
    refine wp_draw [0, 1, 3, 7, 0, 0, 48, 127, 255, 0, 1023] [6, 9, 10] rfl hA hS (by kernel_rfl) (by kernel_rfl) (by kernel_rfl) (by kernel_rfl) fun w hS => ?_
    refine ⟨[(0, .pointer (some ⟨g0, 0, none⟩)), (1, .pointer (some ⟨g0, 0, none⟩)), (2, .pointer (some ⟨g0, 0, none⟩)), (3, .slice A125 n126 c127), (4, .pointer (some ⟨g0, 0, none⟩)), (5, str a1)], ?_⟩
    refine dEff [0, 1, 2, 3, 4, 5] [6, 9] (by kernel_rfl) ⟨pu rfl rfl [(0, .pointer (some ⟨g0, 0, none⟩))] (fun ac hA => y_move hA rfl rfl) rfl rfl, pu rfl rfl [(32, .pointer (some ⟨g0, 0, none⟩))] (fun ac hA => r_nilCheck rfl (hA.ev rfl)) rfl rfl, pu rfl rfl [(33, .pointer (some ⟨g0, 0, none⟩))] (fun ac hA => y_fab fa53_0 hA rfl rfl) rfl rfl, pu rfl rfl [(34, .pointer (some ⟨g0, 0, none⟩))] (fun ac hA => y_ld Try.underlying51 (hS.cell 0 rfl 0 _ rfl) hA rfl rfl rfl) rfl rfl, pu rfl rfl [(0, .pointer (some ⟨g0, 0, none⟩))] (fun ac hA => y_move hA rfl rfl) rfl rfl, pu rfl rfl [(1, str a1)] (fun ac hA => y_move hA rfl rfl) rfl rfl, trivial⟩ (by kernel_rfl) (by kernel_rfl) ⟨?_, ?_, trivial⟩
    · refine ef rfl [(36, .pointer (some ⟨g0, 0, none⟩)), (37, str a1)] (fun ac hA K hK => ?_) rfl rfl
      replace hS := hS.pk 1
      replace hS := hS.pk 1
      obtain ⟨y197, h198, hF⟩ := bnd hF
      refine z_call en47 hA (F_r05_Store_at (L := L) y123.2 a1 g0 A125 n126 c127 h198 hS) (fun v w hR => ?_) rfl rfl
      obtain ⟨rfl, hS⟩ := hR
      obtain ⟨x199, h200, hF⟩ := bnd hF
      obtain ⟨cs, hV, hc201⟩ := el (hS.rd 1 rfl) h200
      obtain rfl := hV
      refine hK _ [(7, .pointer (some (ea A125 (y197.toNat * 3)))), (8, .agg #[str x199.f0, str x199.f1, str x199.f2])] _ rfl ?_
      refine dEff [0, 1, 2, 3, 7, 8] [9] (by kernel_rfl) ⟨pu rfl rfl [(0, .pointer (some ⟨g0, 0, none⟩))] (fun ac hA => y_move hA rfl rfl) rfl rfl, pu rfl rfl [(32, .pointer (some ⟨g0, 0, none⟩))] (fun ac hA => r_nilCheck rfl (hA.ev rfl)) rfl rfl, pu rfl rfl [(33, .pointer (some ⟨g0, 0, none⟩))] (fun ac hA => y_fab fa53_0 hA rfl rfl) rfl rfl, pu rfl rfl [(34, .pointer (some ⟨g0, 0, none⟩))] (fun ac hA => y_ld Try.underlying51 (hS.cell 0 rfl 0 _ rfl) hA rfl rfl rfl) rfl rfl, pu rfl rfl [(35, .slice A125 n126 c127), (38, .int .i64 y197)] (fun ac hA => y_ia Try.underlying51 sz62 (hS.rd 1 rfl) h200 hA rfl rfl rfl) rfl rfl, pu rfl rfl [(39, .pointer (some (ea A125 (y197.toNat * 3))))] (fun ac hA => y_lda (cs := [str x199.f0, str x199.f1, str x199.f2]) Try.underlying62 sz62 (fun j u h => by rw [ea_add]; exact hc201 _ _ h) hA rfl rfl rfl) rfl rfl, trivial⟩ (by kernel_rfl) (by kernel_rfl) ⟨ef rfl [] (fun ac hA K hK => ?_) rfl rfl, trivial⟩
      refine z_alloc (cs := [str [], str [], str []]) zr62 hA hS (fun g202 w hS => ?_) rfl rfl
      obtain ⟨cs, hV, hc203⟩ := el (hS.rd 2 rfl) h200
      obtain rfl := hV
      refine hK _ [] _ rfl ?_
      refine dEff [0, 1, 2, 3, 7, 8] [10] (by kernel_rfl) ⟨pu rfl rfl [(0, .pointer (some ⟨g0, 0, none⟩))] (fun ac hA => y_move hA rfl rfl) rfl rfl, pu rfl rfl [(32, .pointer (some ⟨g0, 0, none⟩))] (fun ac hA => r_nilCheck rfl (hA.ev rfl)) rfl rfl, pu rfl rfl [(33, .pointer (some ⟨g0, 0, none⟩))] (fun ac hA => y_fab fa53_0 hA rfl rfl) rfl rfl, pu rfl rfl [(34, .pointer (some ⟨g0, 0, none⟩))] (fun ac hA => y_ld Try.underlying51 (hS.cell 1 rfl 0 _ rfl) hA rfl rfl rfl) rfl rfl, pu rfl rfl [(35, .slice A125 n126 c127), (38, .int .i64 y197)] (fun ac hA => y_ia Try.underlying51 sz62 (hS.rd 2 rfl) h200 hA rfl rfl rfl) rfl rfl, pu rfl rfl [(39, .pointer (some (ea A125 (y197.toNat * 3))))] (fun ac hA => y_lda (cs := [str x199.f0, str x199.f1, str x199.f2]) Try.underlying62 sz62 (fun j u h => by rw [ea_add]; exact hc203 _ _ h) hA rfl rfl rfl) rfl rfl, trivial⟩ (by kernel_rfl) (by kernel_rfl) ⟨ef rfl [(9, .pointer (some ⟨g202, 0, none⟩)), (40, .agg #[str x199.f0, str x199.f1, str x199.f2])] (fun ac hA K hK => ?_) rfl rfl, trivial⟩
      refine z_stb 0 sz62 hA hS rfl (fun  w hS => ?_) rfl rfl rfl rfl rfl rfl
      refine hK _ [] _ rfl ?_
      refine dEnd [] (by kernel_rfl) trivial ⟨by kernel_rfl, by kernel_rfl⟩ [(0, .pointer (some ⟨g0, 0, none⟩)), (1, str a1), (2, str a2), (9, .pointer (some ⟨g202, 0, none⟩))] rfl (fun ac hA => ?_)
      replace hS := hS.pk 2
      replace hS := hS.pk 1
      replace hS := hS.pk 2
      exact hj2 x199.f0 x199.f1 x199.f2 hF g202 ac w (hA.sub _ rfl) hS
    · refine ef rfl [] (fun ac hA K hK => ?_) rfl rfl
      refine z_alloc (cs := [str [], str [], str []]) zr62 hA hS (fun g204 w hS => ?_) rfl rfl
      refine hK _ [] _ rfl ?_
      refine dEff [0, 1, 2, 3, 4, 5] [6] (by kernel_rfl) ⟨pu rfl rfl [(0, .pointer (some ⟨g0, 0, none⟩))] (fun ac hA => y_move hA rfl rfl) rfl rfl, pu rfl rfl [(32, .pointer (some ⟨g0, 0, none⟩))] (fun ac hA => r_nilCheck rfl (hA.ev rfl)) rfl rfl, pu rfl rfl [(33, .pointer (some ⟨g0, 0, none⟩))] (fun ac hA => y_fab fa53_0 hA rfl rfl) rfl rfl, pu rfl rfl [(34, .pointer (some ⟨g0, 0, none⟩))] (fun ac hA => y_ld Try.underlying51 (hS.cell 1 rfl 0 _ rfl) hA rfl rfl rfl) rfl rfl, pu rfl rfl [(0, .pointer (some ⟨g0, 0, none⟩))] (fun ac hA => y_move hA rfl rfl) rfl rfl, pu rfl rfl [(1, str a1)] (fun ac hA => y_move hA rfl rfl) rfl rfl, trivial⟩ (by kernel_rfl) (by kernel_rfl) ⟨ef rfl [(36, .pointer (some ⟨g0, 0, none⟩)), (37, str a1)] (fun ac hA K hK => ?_) rfl rfl, trivial⟩
      replace hS := hS.pk 2
      replace hS := hS.pk 2
      obtain ⟨y205, h206, hF⟩ := bnd hF
      refine z_call en47 hA (F_r05_Store_at (L := blk g204 62 [str [], str [], str []] :: L) y123.2 a1 g0 A125 n126 c127 h206 hS) (fun v w hR => ?_) rfl rfl
      obtain ⟨rfl, hS⟩ := hR
      obtain ⟨x207, h208, hF⟩ := bnd hF
      obtain ⟨cs, hV, hc209⟩ := el (hS.rd 1 rfl) h208
      obtain rfl := hV
      refine hK _ [(7, .pointer (some (ea A125 (y205.toNat * 3)))), (8, .agg #[str x207.f0, str x207.f1, str x207.f2])] _ rfl ?_
      refine dEff [0, 1, 2, 3, 7, 8] [10] (by kernel_rfl) ⟨pu rfl rfl [(0, .pointer (some ⟨g0, 0, none⟩))] (fun ac hA => y_move hA rfl rfl) rfl rfl, pu rfl rfl [(32, .pointer (some ⟨g0, 0, none⟩))] (fun ac hA => r_nilCheck rfl (hA.ev rfl)) rfl rfl, pu rfl rfl [(33, .pointer (some ⟨g0, 0, none⟩))] (fun ac hA => y_fab fa53_0 hA rfl rfl) rfl rfl, pu rfl rfl [(34, .pointer (some ⟨g0, 0, none⟩))] (fun ac hA => y_ld Try.underlying51 (hS.cell 0 rfl 0 _ rfl) hA rfl rfl rfl) rfl rfl, pu rfl rfl [(35, .slice A125 n126 c127), (38, .int .i64 y205)] (fun ac hA => y_ia Try.underlying51 sz62 (hS.rd 1 rfl) h208 hA rfl rfl rfl) rfl rfl, pu rfl rfl [(39, .pointer (some (ea A125 (y205.toNat * 3))))] (fun ac hA => y_lda (cs := [str x207.f0, str x207.f1, str x207.f2]) Try.underlying62 sz62 (fun j u h => by rw [ea_add]; exact hc209 _ _ h) hA rfl rfl rfl) rfl rfl, trivial⟩ (by kernel_rfl) (by kernel_rfl) ⟨ef rfl [(9, .pointer (some ⟨g204, 0, none⟩)), (40, .agg #[str x207.f0, str x207.f1, str x207.f2])] (fun ac hA K hK => ?_) rfl rfl, trivial⟩
      refine z_stb 2 sz62 hA hS rfl (fun  w hS => ?_) rfl rfl rfl rfl rfl rfl
      refine hK _ [] _ rfl ?_
      refine dEnd [] (by kernel_rfl) trivial ⟨by kernel_rfl, by kernel_rfl⟩ [(0, .pointer (some ⟨g0, 0, none⟩)), (1, str a1), (2, str a2), (9, .pointer (some ⟨g204, 0, none⟩))] rfl (fun ac hA => ?_)
      replace hS := hS.pk 2
      replace hS := hS.pk 1
      replace hS := hS.pk 2
      exact hj2 x207.f0 x207.f1 x207.f2 hF g204 ac w (hA.sub _ rfl) hS
  refine wp_reg ?_
  refine x_move hA (fun ac hA => ?_) rfl rfl rfl rfl rfl
  obtain ⟨y210, h211, hF⟩ := bnd hF
  refine x_call en33 hA (F_r05_Form (L := blk g0 53 [.slice A101 n102 c103, .int .i64 a0.f1, .int .i64 a0.f2, .bool a0.f3, .int .i64 a0.f4] :: own k62 62 A101 n102 c103 a0.f0 :: L) a1 h211 hS) (fun v ac w hR hA => ?_) rfl rfl rfl rfl rfl
  obtain ⟨rfl, hS⟩ := hR
  refine x_val hA (r_not rfl (hA.ev rfl)) (fun ac hA => ?_) rfl rfl rfl
  refine x_move hA (fun ac hA => ?_) rfl rfl rfl rfl rfl
  refine bcase (b := !y210) (fun hb212 => ?_) fun hb212 => ?_
  · replace hF := ift hb212 hF
    refine x_off hb212 hA (fun ac hA => ?_) rfl rfl rfl rfl rfl
    refine x_off hb212 hA (fun ac hA => ?_) rfl rfl rfl rfl rfl
    refine x_off hb212 hA (fun ac hA => ?_) rfl rfl rfl rfl rfl
    refine x_pickt hb212 hA (fun ac hA => ?_) rfl rfl rfl rfl rfl rfl
    refine wpList_nil ?_
    exact hj1 true hF ac w (hA.sub _ rfl) hS
  replace hF := iff' hb212 hF
  refine x_on hb212 hA ?_ rfl rfl rfl
  refine x_move hA (fun ac hA => ?_) rfl rfl rfl rfl rfl
  refine x_on hb212 hA ?_ rfl rfl rfl
  obtain ⟨y213, h214, hF⟩ := bnd hF
  refine x_call en33 hA (F_r05_Form (L := blk g0 53 [.slice A101 n102 c103, .int .i64 a0.f1, .int .i64 a0.f2, .bool a0.f3, .int .i64 a0.f4] :: own k62 62 A101 n102 c103 a0.f0 :: L) a2 h214 hS) (fun v ac w hR hA => ?_) rfl rfl rfl rfl rfl
  obtain ⟨rfl, hS⟩ := hR
  refine x_on hb212 hA ?_ rfl rfl rfl
  refine x_val hA (r_not rfl (hA.ev rfl)) (fun ac hA => ?_) rfl rfl rfl
  refine x_pickf hb212 hA (fun ac hA => ?_) rfl rfl rfl rfl rfl rfl
  refine wpList_nil ?_
  exact hj1 (!y213) hF ac w (hA.sub _ rfl) hS

set_option maxHeartbeats 4000000 in
theorem F_r05_Store_Restart {r : World} {L : List HP} {w : World} (a0 : S53) (a1 : (List Int)) (g0 : Nat) (A1 : Option Addr) (n1 : Nat) (c1 : Nat) {y : (S53)} (hF : r05_Store_Restart a0 a1 = some y) (ha1 : RdL L (kI .i64) A1 n1 c1 a1) (hS : SH r (obj53 g0 a0 :: L) w) :
    Ret Try.prog 28 #[.pointer (some ⟨g0, 0, none⟩), .slice A1 n1 c1] w fun v w' => v = .tuple #[] ∧ SH r (obj53 g0 y :: L) w' := by
  refine enter Try.func28 rfl Try.ntmps28 [(0, .pointer (some ⟨g0, 0, none⟩)), (1, .slice A1 n1 c1)] rfl (by simp) ?_
  intro ac hA Qf hQ hQn
  unfold r05_Store_Restart at hF
  obtain ⟨A101, n102, c103, hS⟩ := obj53_open hS
  refine wp_seq_k fun K104 hK104 => ?_
  refine wp_seq_k fun K509 hK509 => ?_
  refine wp_reg ?_
  refine x_assign hA (fun ac hA => ?_) rfl rfl rfl rfl rfl
  refine wpList_nil ?_
  refine hK509 _ _ ?_
  refine wp_block_k fun Kx510 hKx510 => ?_
  have hb1 : ∀ (l711 : (List S62)), r05_Store_Restart_b1 a0 l711 = some y → ∀ (ac : Act) (w : World), FR 81 [] ac [(0, .pointer (some ⟨g0, 0, none⟩))] → SH r (blk g0 53 [.slice A101 n102 c103, .int .i64 a0.f1, .int .i64 a0.f2, .bool a0.f3, .int .i64 a0.f4] :: own k62 62 A101 n102 c103 l711 :: L) w → Kx510 ac w := by
    intro l711 hF ac w hA hS
    unfold r05_Store_Restart_b1 at hF
    refine hKx510 _ _ ?_
    refine hK104 _ _ ?_
    refine wp_seq_k fun K712 hK712 => ?_
    refine wp_reg ?_
    refine x_move hA (fun ac hA => ?_) rfl rfl rfl rfl rfl
    refine x_val hA (r_nilCheck rfl (hA.ev rfl)) (fun ac hA => ?_) rfl rfl rfl
    refine x_fab fa53_3 hA (fun ac hA => ?_) rfl rfl rfl rfl rfl
    refine x_stb 0 sz4 hA hS rfl (fun  ac w hS hA => ?_) rfl rfl rfl rfl rfl rfl rfl rfl
    refine wpList_nil ?_
    refine hK712 _ _ ?_
    refine wp_reg ?_
    refine x_move hA (fun ac hA => ?_) rfl rfl rfl rfl rfl
    refine x_val hA (r_nilCheck rfl (hA.ev rfl)) (fun ac hA => ?_) rfl rfl rfl
    refine x_fab fa53_2 hA (fun ac hA => ?_) rfl rfl rfl rfl rfl
    refine x_stb 0 sz3 hA hS rfl (fun  ac w hS hA => ?_) rfl rfl rfl rfl rfl rfl rfl rfl
    refine wpList_nil ?_
    replace hS := hS.pk 1
    replace hS := hS.pk 1
    replace hS := obj53_mk (x := (⟨l711, a0.f1, 0, false, a0.f4⟩ : S53)) hS
    cases hF
    refine hQn _ _ ?_
    refine lv0n Try.results28 hA ?_
    exact ⟨rfl, hS⟩
  obtain ⟨t847, hl847, hF⟩ := bnd hF
  have hx847_0 : ∀ (l847 : (List S62)), (l847) = t847 → ∀ (ac : Act) (w : World), FR 81 [] ac [(0, .pointer (some ⟨g0, 0, none⟩))] → SH r (blk g0 53 [.slice A101 n102 c103, .int .i64 a0.f1, .int .i64 a0.f2, .bool a0.f3, .int .i64 a0.f4] :: own k62 62 A101 n102 c103 l847 :: L) w → Kx510 ac w := by
    intro l847 ht ac w hA hS
    subst ht
    replace hF : r05_Store_Restart_x1_0 a0 l847 = some y := hF
    unfold r05_Store_Restart_x1_0 at hF
    exact hb1 l847 hF ac w (hA.sub _ rfl) hS
  refine wp_loop_fn hl847 (fun s ac w => FR 81 [] ac [(0, .pointer (some ⟨g0, 0, none⟩)), (1, .slice A1 n1 c1), (4, .int .i64 s.2)] ∧ SH r (blk g0 53 [.slice A101 n102 c103, .int .i64 a0.f1, .int .i64 a0.f2, .bool a0.f3, .int .i64 a0.f4] :: own k62 62 A101 n102 c103 s.1 :: L) w) ⟨hA.sub _ rfl, hS⟩ ?_
  intro N847 s847 o847 hF N847_ T847_ ac w hLab
  obtain ⟨l779, x780⟩ := s847
  replace hF : r05_Store_Restart_l1 a1 l779 x780 = some o847 := hF
  unfold r05_Store_Restart_l1 at hF
  try dsimp only at hLab
  obtain ⟨hA, hS⟩ := hLab
  refine wp_seq_k fun K849 hK849 => ?_
  refine wp_seq_k fun K850 hK850 => ?_
  refine wp_reg ?_
  refine x_move hA (fun ac hA => ?_) rfl rfl rfl rfl rfl
  refine x_move hA (fun ac hA => ?_) rfl rfl rfl rfl rfl
  refine x_val hA (r_nilCheck rfl (hA.ev rfl)) (fun ac hA => ?_) rfl rfl rfl
  refine x_fab fa53_0 hA (fun ac hA => ?_) rfl rfl rfl rfl rfl
  refine x_ld Try.underlying51 (hS.cell 0 rfl 0 _ rfl) hA (fun ac hA => ?_) rfl rfl rfl rfl rfl rfl
  refine x_len Try.underlying51 (hS.rd 1 rfl).2.1 hA (fun ac hA => ?_) rfl rfl rfl rfl rfl
  refine x_val hA (r_ltI rfl (hA.ev rfl) (hA.ev rfl)) (fun ac hA => ?_) rfl rfl rfl
  refine wpList_nil ?_
  refine hK850 _ _ ?_
  refine c_if hA rfl (fun hb851 => ?_) fun hb851 => ?_
  · replace hF := ift hb851 hF
    refine wp_skip ?_
    refine hK849 _ _ ?_
    refine wp_seq_k fun K852 hK852 => ?_
    refine wp_block_k fun Kx853 hKx853 => ?_
    refine wp_seq_k fun K854 hK854 => ?_
    refine wp_reg ?_
    refine x_assign hA (fun ac hA => ?_) rfl rfl rfl rfl rfl
    refine wpList_nil ?_
    refine hK854 _ _ ?_
    refine wp_seq_k fun K855 hK855 => ?_
    have hj1 : ∀ (x861 : Int), r05_Store_Restart_j1 l779 x780 x861 = some o847 → ∀ (ac : Act) (w : World), FR 81 [] ac [(0, .pointer (some ⟨g0, 0, none⟩)), (1, .slice A1 n1 c1), (4, .int .i64 x780), (5, .int .i64 x861)] → SH r (blk g0 53 [.slice A101 n102 c103, .int .i64 a0.f1, .int .i64 a0.f2, .bool a0.f3, .int .i64 a0.f4] :: own k62 62 A101 n102 c103 l779 :: L) w → K855 ac w := by
      intro x861 hF ac w hA hS
      unfold r05_Store_Restart_j1 at hF
      refine hK855 _ _ ?_
      refine wp_seq_k fun K862 hK862 => ?_
      have hj2 : ∀ (x878 : Int), r05_Store_Restart_j2 l779 x780 x878 = some o847 → ∀ (ac : Act) (w : World), FR 81 [] ac [(0, .pointer (some ⟨g0, 0, none⟩)), (1, .slice A1 n1 c1), (4, .int .i64 x780), (5, .int .i64 x878)] → SH r (blk g0 53 [.slice A101 n102 c103, .int .i64 a0.f1, .int .i64 a0.f2, .bool a0.f3, .int .i64 a0.f4] :: own k62 62 A101 n102 c103 l779 :: L) w → K862 ac w := by
        intro x878 hF ac w hA hS
        unfold r05_Store_Restart_j2 at hF
        refine hK862 _ _ ?_
        refine wp_seq_k fun K879 hK879 => ?_
        refine wp_draw [0, 1, 3, 7, 0, 31, 63, 127, 0, 256, 768, 1792, 0, 7936, 16128, 32512, 0, 130816, 262143, 524287, 1048575, 2097151] [21] rfl hA hS (by kernel_rfl) (by kernel_rfl) (by kernel_rfl) (by kernel_rfl) fun w hS => ?_
        obtain ⟨x880, h881, hF⟩ := bnd hF
        obtain ⟨cs, hV, hc882⟩ := el (hS.rd 1 rfl) h881
        obtain rfl := hV
        obtain ⟨cs, hV, hc883⟩ := el (hS.rd 1 rfl) h881
        obtain rfl := hV
        obtain ⟨s884, h885, hF⟩ := bnd hF
        obtain ⟨h886, hF⟩ := chk_some hF
        refine ⟨[(0, .pointer (some ⟨g0, 0, none⟩)), (1, .pointer (some ⟨g0, 0, none⟩)), (2, .pointer (some ⟨g0, 0, none⟩)), (3, .slice A101 n102 c103), (4, .int .i64 x780), (5, .pointer (some (ea A101 (x780.toNat * 3)))), (6, .pointer (some (ea A101 (x780.toNat * 3 + 1)))), (7, str x880.f1), (8, .pointer (some ⟨g0, 0, none⟩)), (9, .pointer (some ⟨g0, 0, none⟩)), (10, .pointer (some ⟨g0, 0, none⟩)), (11, .slice A101 n102 c103), (12, .int .i64 x780), (13, .pointer (some (ea A101 (x780.toNat * 3)))), (14, .pointer (some (ea A101 (x780.toNat * 3 + 2)))), (15, str x880.f2), (16, .int .i64 x878), (17, str s884), (18, str (x880.f1 ++ s884)), (19, .pointer (some (ea A101 (x780.toNat * 3)))), (20, .pointer (some (ea A101 (x780.toNat * 3 + 1))))], ?_⟩
        refine dEff [0, 1, 2, 3, 4, 5, 6, 7, 8, 9, 10, 11, 12, 13, 14, 15, 16, 17, 18, 19, 20] [21] (by kernel_rfl) ⟨pu rfl rfl [(0, .pointer (some ⟨g0, 0, none⟩))] (fun ac hA => y_move hA rfl rfl) rfl rfl, pu rfl rfl [(47, .pointer (some ⟨g0, 0, none⟩))] (fun ac hA => r_nilCheck rfl (hA.ev rfl)) rfl rfl, pu rfl rfl [(48, .pointer (some ⟨g0, 0, none⟩))] (fun ac hA => y_fab fa53_0 hA rfl rfl) rfl rfl, pu rfl rfl [(49, .pointer (some ⟨g0, 0, none⟩))] (fun ac hA => y_ld Try.underlying51 (hS.cell 0 rfl 0 _ rfl) hA rfl rfl rfl) rfl rfl, pu rfl rfl [(4, .int .i64 x780)] (fun ac hA => y_move hA rfl rfl) rfl rfl, pu rfl rfl [(50, .slice A101 n102 c103), (51, .int .i64 x780)] (fun ac hA => y_ia Try.underlying51 sz62 (hS.rd 1 rfl) h881 hA rfl rfl rfl) rfl rfl, pu rfl rfl [(52, .pointer (some (ea A101 (x780.toNat * 3))))] (fun ac hA => y_fae (m := x780.toNat * 3) fa62_1 hA rfl rfl) rfl rfl, pu rfl rfl [(53, .pointer (some (ea A101 (x780.toNat * 3 + 1))))] (fun ac hA => y_ld Try.underlying9 (hc882 1 _ rfl) hA rfl rfl rfl) rfl rfl, pu rfl rfl [(0, .pointer (some ⟨g0, 0, none⟩))] (fun ac hA => y_move hA rfl rfl) rfl rfl, pu rfl rfl [(55, .pointer (some ⟨g0, 0, none⟩))] (fun ac hA => r_nilCheck rfl (hA.ev rfl)) rfl rfl, pu rfl rfl [(56, .pointer (some ⟨g0, 0, none⟩))] (fun ac hA => y_fab fa53_0 hA rfl rfl) rfl rfl, pu rfl rfl [(57, .pointer (some ⟨g0, 0, none⟩))] (fun ac hA => y_ld Try.underlying51 (hS.cell 0 rfl 0 _ rfl) hA rfl rfl rfl) rfl rfl, pu rfl rfl [(4, .int .i64 x780)] (fun ac hA => y_move hA rfl rfl) rfl rfl, pu rfl rfl [(58, .slice A101 n102 c103), (59, .int .i64 x780)] (fun ac hA => y_ia Try.underlying51 sz62 (hS.rd 1 rfl) h881 hA rfl rfl rfl) rfl rfl, pu rfl rfl [(60, .pointer (some (ea A101 (x780.toNat * 3))))] (fun ac hA => y_fae (m := x780.toNat * 3) fa62_2 hA rfl rfl) rfl rfl, pu rfl rfl [(61, .pointer (some (ea A101 (x780.toNat * 3 + 2))))] (fun ac hA => y_ld Try.underlying9 (hc883 2 _ rfl) hA rfl rfl rfl) rfl rfl, pu rfl rfl [(5, .int .i64 x878)] (fun ac hA => y_move hA rfl rfl) rfl rfl, pu rfl rfl [(62, str x880.f2), (63, .int .i64 x878)] (fun ac hA => y_cutSh Try.underlying9 h885 hA rfl rfl rfl) rfl rfl, pu rfl rfl [(54, str x880.f1), (64, str s884)] (fun ac hA => r_catS rfl (hA.ev rfl) (hA.ev rfl) h886) rfl rfl, pu rfl rfl [(50, .slice A101 n102 c103), (51, .int .i64 x780)] (fun ac hA => y_ia Try.underlying51 sz62 (hS.rd 1 rfl) h881 hA rfl rfl rfl) rfl rfl, pu rfl rfl [(66, .pointer (some (ea A101 (x780.toNat * 3))))] (fun ac hA => y_fae (m := x780.toNat * 3) fa62_1 hA rfl rfl) rfl rfl, trivial⟩ (by kernel_rfl) (by kernel_rfl) ⟨ef rfl [(65, str (x880.f1 ++ s884)), (67, .pointer (some (ea A101 (x780.toNat * 3 + 1))))] (fun ac hA K hK => ?_) rfl rfl, trivial⟩
        refine z_sto (z' := (⟨x880.f0, x880.f1 ++ s884, x880.f2⟩ : S62)) (off := 1) (vs := [str (x880.f1 ++ s884)]) 1 sz9 hA hS rfl (at_some h881).2.2 (fun c h => by cases h; rfl) (fun  w hS => ?_) rfl rfl rfl rfl rfl rfl
        refine hK _ [] _ rfl ?_
        refine dEnd [] (by kernel_rfl) trivial ⟨by kernel_rfl, by kernel_rfl⟩ [(0, .pointer (some ⟨g0, 0, none⟩)), (1, .slice A1 n1 c1), (4, .int .i64 x780)] rfl (fun ac hA => ?_)
        refine hK879 _ _ ?_
        refine wp_reg ?_
        refine x_move hA (fun ac hA => ?_) rfl rfl rfl rfl rfl
        refine x_val hA (r_nilCheck rfl (hA.ev rfl)) (fun ac hA => ?_) rfl rfl rfl
        refine x_fab fa53_0 hA (fun ac hA => ?_) rfl rfl rfl rfl rfl
        refine x_ld Try.underlying51 (hS.cell 1 rfl 0 _ rfl) hA (fun ac hA => ?_) rfl rfl rfl rfl rfl rfl
        refine x_move hA (fun ac hA => ?_) rfl rfl rfl rfl rfl
        obtain ⟨x887, h888, hF⟩ := bnd hF
        refine x_ia Try.underlying51 sz62 (hS.rd 0 rfl) h888 hA (fun ac hA => ?_) rfl rfl rfl rfl rfl rfl
        refine x_fae (m := x780.toNat * 3) fa62_2 hA (fun ac hA => ?_) rfl rfl rfl rfl rfl
        refine x_sto (z' := (⟨x887.f0, x887.f1, []⟩ : S62)) (off := 2) (vs := [str []]) 0 sz9 hA hS rfl (at_some h888).2.2 (fun c h => by cases h; rfl) (fun  ac w hS hA => ?_) rfl rfl rfl rfl rfl rfl rfl rfl
        refine wpList_nil ?_
        refine hKx853 _ _ ?_
        refine hK852 _ _ ?_
        refine wp_reg ?_
        refine x_move hA (fun ac hA => ?_) rfl rfl rfl rfl rfl
        obtain ⟨x889, h890, hF⟩ := ltt_ hF
        refine x_val (v := .int .i64 x889) hA (rv_i h890 (r_add rfl (hA.ev rfl) (hA.ev rfl))) (fun ac hA => ?_) rfl rfl rfl
        refine x_assign hA (fun ac hA => ?_) rfl rfl rfl rfl rfl
        refine wpList_nil ?_
        replace hS := hS.pk 1
        cases hF
        exact ⟨_, N847_ _ rfl, hA.sub _ rfl, hS⟩
      refine wp_seq_k fun K891 hK891 => ?_
      have hj3 : ∀ (b896 : Bool), r05_Store_Restart_j3 l779 x780 x861 b896 = some o847 → ∀ (ac : Act) (w : World), FR 81 [] ac [(0, .pointer (some ⟨g0, 0, none⟩)), (1, .slice A1 n1 c1), (4, .int .i64 x780), (5, .int .i64 x861), (37, .bool b896)] → SH r (blk g0 53 [.slice A101 n102 c103, .int .i64 a0.f1, .int .i64 a0.f2, .bool a0.f3, .int .i64 a0.f4] :: own k62 62 A101 n102 c103 l779 :: L) w → K891 ac w := by
        intro b896 hF ac w hA hS
        unfold r05_Store_Restart_j3 at hF
        refine hK891 _ _ ?_
        refine c_if hA rfl (fun hb897 => ?_) fun hb897 => ?_
        · replace hF := ift hb897 hF
          refine wp_reg ?_
          refine x_move hA (fun ac hA => ?_) rfl rfl rfl rfl rfl
          refine x_val hA (r_nilCheck rfl (hA.ev rfl)) (fun ac hA => ?_) rfl rfl rfl
          refine x_fab fa53_0 hA (fun ac hA => ?_) rfl rfl rfl rfl rfl
          refine x_ld Try.underlying51 (hS.cell 0 rfl 0 _ rfl) hA (fun ac hA => ?_) rfl rfl rfl rfl rfl rfl
          refine x_move hA (fun ac hA => ?_) rfl rfl rfl rfl rfl
          obtain ⟨x898, h899, hF⟩ := bnd hF
          refine x_ia Try.underlying51 sz62 (hS.rd 1 rfl) h899 hA (fun ac hA => ?_) rfl rfl rfl rfl rfl rfl
          refine x_fae (m := x780.toNat * 3) fa62_2 hA (fun ac hA => ?_) rfl rfl rfl rfl rfl
          obtain ⟨cs, hV, hc900⟩ := el (hS.rd 1 rfl) h899
          obtain rfl := hV
          refine x_ld Try.underlying9 (hc900 2 _ rfl) hA (fun ac hA => ?_) rfl rfl rfl rfl rfl rfl
          refine x_val hA (r_lenS Try.underlying9 rfl (hA.ev rfl)) (fun ac hA => ?_) rfl rfl rfl
          refine x_assign hA (fun ac hA => ?_) rfl rfl rfl rfl rfl
          refine wpList_nil ?_
          exact hj2 (x898.f2.length : Int) hF ac w (hA.sub _ rfl) hS
        replace hF := iff' hb897 hF
        refine wp_skip ?_
        exact hj2 x861 hF ac w (hA.sub _ rfl) hS
      refine wp_reg ?_
      refine x_move hA (fun ac hA => ?_) rfl rfl rfl rfl rfl
      refine x_val hA (r_ltI rfl (hA.ev rfl) (hA.ev rfl)) (fun ac hA => ?_) rfl rfl rfl
      refine x_move hA (fun ac hA => ?_) rfl rfl rfl rfl rfl
      refine bcase (b := decide (x861 < 0)) (fun hb901 => ?_) fun hb901 => ?_
      · replace hF := ift hb901 hF
        refine x_off hb901 hA (fun ac hA => ?_) rfl rfl rfl rfl rfl
        refine x_off hb901 hA (fun ac hA => ?_) rfl rfl rfl rfl rfl
        refine x_off hb901 hA (fun ac hA => ?_) rfl rfl rfl rfl rfl
        refine x_off hb901 hA (fun ac hA => ?_) rfl rfl rfl rfl rfl
        refine x_off hb901 hA (fun ac hA => ?_) rfl rfl rfl rfl rfl
        refine x_off hb901 hA (fun ac hA => ?_) rfl rfl rfl rfl rfl
        refine x_off hb901 hA (fun ac hA => ?_) rfl rfl rfl rfl rfl
        refine x_off hb901 hA (fun ac hA => ?_) rfl rfl rfl rfl rfl
        refine x_off hb901 hA (fun ac hA => ?_) rfl rfl rfl rfl rfl
        refine x_off hb901 hA (fun ac hA => ?_) rfl rfl rfl rfl rfl
        refine x_off hb901 hA (fun ac hA => ?_) rfl rfl rfl rfl rfl
        refine x_pickt hb901 hA (fun ac hA => ?_) rfl rfl rfl rfl rfl rfl
        refine wpList_nil ?_
        exact hj3 true hF ac w (hA.sub _ rfl) hS
      replace hF := iff' hb901 hF
      refine x_on hb901 hA ?_ rfl rfl rfl
      refine x_move hA (fun ac hA => ?_) rfl rfl rfl rfl rfl
      refine x_on hb901 hA ?_ rfl rfl rfl
      refine x_move hA (fun ac hA => ?_) rfl rfl rfl rfl rfl
      refine x_on hb901 hA ?_ rfl rfl rfl
      refine x_val hA (r_nilCheck rfl (hA.ev rfl)) (fun ac hA => ?_) rfl rfl rfl
      refine x_on hb901 hA ?_ rfl rfl rfl
      refine x_fab fa53_0 hA (fun ac hA => ?_) rfl rfl rfl rfl rfl
      refine x_on hb901 hA ?_ rfl rfl rfl
      refine x_ld Try.underlying51 (hS.cell 0 rfl 0 _ rfl) hA (fun ac hA => ?_) rfl rfl rfl rfl rfl rfl
      refine x_on hb901 hA ?_ rfl rfl rfl
      refine x_move hA (fun ac hA => ?_) rfl rfl rfl rfl rfl
      refine x_on hb901 hA ?_ rfl rfl rfl
      obtain ⟨x902, h903, hF⟩ := bnd hF
      refine x_ia Try.underlying51 sz62 (hS.rd 1 rfl) h903 hA (fun ac hA => ?_) rfl rfl rfl rfl rfl rfl
      refine x_on hb901 hA ?_ rfl rfl rfl
      refine x_fae (m := x780.toNat * 3) fa62_2 hA (fun ac hA => ?_) rfl rfl rfl rfl rfl
      refine x_on hb901 hA ?_ rfl rfl rfl
      obtain ⟨cs, hV, hc904⟩ := el (hS.rd 1 rfl) h903
      obtain rfl := hV
      refine x_ld Try.underlying9 (hc904 2 _ rfl) hA (fun ac hA => ?_) rfl rfl rfl rfl rfl rfl
      refine x_on hb901 hA ?_ rfl rfl rfl
      refine x_val hA (r_lenS Try.underlying9 rfl (hA.ev rfl)) (fun ac hA => ?_) rfl rfl rfl
      refine x_on hb901 hA ?_ rfl rfl rfl
      refine x_val hA (r_gtI rfl (hA.ev rfl) (hA.ev rfl)) (fun ac hA => ?_) rfl rfl rfl
      refine x_pickf hb901 hA (fun ac hA => ?_) rfl rfl rfl rfl rfl rfl
      refine wpList_nil ?_
      exact hj3 (decide ((x902.f2.length : Int) < x861)) hF ac w (hA.sub _ rfl) hS
    refine wp_seq_k fun K905 hK905 => ?_
    refine wp_reg ?_
    refine x_move hA (fun ac hA => ?_) rfl rfl rfl rfl rfl
    refine x_move hA (fun ac hA => ?_) rfl rfl rfl rfl rfl
    refine x_len Try.underlying40 (hS.rdl 2 ha1 rfl).2.1 hA (fun ac hA => ?_) rfl rfl rfl rfl rfl
    refine x_val hA (r_ltI rfl (hA.ev rfl) (hA.ev rfl)) (fun ac hA => ?_) rfl rfl rfl
    refine wpList_nil ?_
    refine hK905 _ _ ?_
    refine c_if hA rfl (fun hb906 => ?_) fun hb906 => ?_
    · replace hF := ift hb906 hF
      refine wp_reg ?_
      refine x_move hA (fun ac hA => ?_) rfl rfl rfl rfl rfl
      refine x_move hA (fun ac hA => ?_) rfl rfl rfl rfl rfl
      obtain ⟨x907, h908, hF⟩ := bnd hF
      refine x_ia Try.underlying40 sz3 (hS.rdl 2 ha1 rfl) h908 hA (fun ac hA => ?_) rfl rfl rfl rfl rfl rfl
      obtain ⟨cs, hV, hc909⟩ := el (hS.rdl 2 ha1 rfl) h908
      obtain rfl := hV
      refine x_ld Try.underlying3 (hc909 0 _ rfl) hA (fun ac hA => ?_) rfl rfl rfl rfl rfl rfl
      refine x_assign hA (fun ac hA => ?_) rfl rfl rfl rfl rfl
      refine wpList_nil ?_
      exact hj1 x907 hF ac w (hA.sub _ rfl) hS
    replace hF := iff' hb906 hF
    refine wp_skip ?_
    exact hj1 0 hF ac w (hA.sub _ rfl) hS
  replace hF := iff' hb851 hF
  refine wp_exit ?_
  cases hF
  exact hx847_0 l779 (T847_ _ rfl) ac w (hA.sub _ rfl) hS
end Go.Proofs.Ytgjhiojkkjaloaa.M
