/- The calls come to the plain functions. -/
import Derived.Test.YtgjhiojkkjaloaaMa
import Derived.Test.YtgjhiojkkjaloaaEm
import Derived.Test.YtgjhiojkkjaloaaHa
import Derived.Test.YtgjhiojkkjaloaaDb
namespace Go.Proofs.Ytgjhiojkkjaloaa.M
open Go Go.RowKit Go.Proofs.Ytgjhiojkkjaloaa.E
set_option linter.unusedVariables false
set_option linter.unusedSimpArgs false

set_option maxHeartbeats 4000000 in
theorem F_files_Form {r : World} {L : List HP} {w : World} (a0 : (List UInt8)) {y : (Bool)} (hF : files_Form a0 = some y) (hS : SH r (L) w) :
    Ret Try.prog 21 #[str a0] w fun v w' => v = .bool y ∧ SH r (L) w' := by
  refine enter Try.func21 rfl Try.ntmps21 [(0, str a0)] rfl (by simp) ?_
  intro ac hA Qf hQ hQn
  unfold files_Form at hF
  refine wp_seq_k fun K101 hK101 => ?_
  refine wp_reg ?_
  refine x_assign hA (fun ac hA => ?_) rfl rfl rfl rfl rfl
  refine wpList_nil ?_
  refine hK101 _ _ ?_
  refine wp_seq_k fun K102 hK102 => ?_
  refine wp_seq_k fun K270 hK270 => ?_
  refine wp_reg ?_
  refine x_move hA (fun ac hA => ?_) rfl rfl rfl rfl rfl
  refine x_val hA (r_lenS Try.underlying9 rfl (hA.ev rfl)) (fun ac hA => ?_) rfl rfl rfl
  refine x_move hA (fun ac hA => ?_) rfl rfl rfl rfl rfl
  refine wpList_nil ?_
  refine hK270 _ _ ?_
  refine wp_block_k fun Kx271 hKx271 => ?_
  have hb1 : files_Form_b1 a0 = some y → ∀ (ac : Act) (w : World), FR 39 [] ac [(0, str a0)] → SH r (L) w → Kx271 ac w := by
    intro hF ac w hA hS
    unfold files_Form_b1 at hF
    refine hKx271 _ _ ?_
    refine hK102 _ _ ?_
    refine wp_seq_k fun K354 hK354 => ?_
    refine wp_reg ?_
    refine x_move hA (fun ac hA => ?_) rfl rfl rfl rfl rfl
    refine x_val hA (r_neS rfl (hA.ev rfl) (hA.ev rfl)) (fun ac hA => ?_) rfl rfl rfl
    refine x_move hA (fun ac hA => ?_) rfl rfl rfl rfl rfl
    refine bcase (b := !(a0 == [])) (fun hb355 => ?_) fun hb355 => ?_
    · replace hF := ift hb355 hF
      refine x_on hb355 hA ?_ rfl rfl rfl
      refine x_move hA (fun ac hA => ?_) rfl rfl rfl rfl rfl
      refine x_on hb355 hA ?_ rfl rfl rfl
      refine x_val hA (r_lenS Try.underlying9 rfl (hA.ev rfl)) (fun ac hA => ?_) rfl rfl rfl
      refine x_on hb355 hA ?_ rfl rfl rfl
      refine x_val hA (r_leI rfl (hA.ev rfl) (hA.ev rfl)) (fun ac hA => ?_) rfl rfl rfl
      refine x_pickt hb355 hA (fun ac hA => ?_) rfl rfl rfl rfl rfl rfl
      refine x_assign hA (fun ac hA => ?_) rfl rfl rfl rfl rfl
      refine wpList_nil ?_
      refine hK354 _ _ ?_
      refine wp_ret ?_
      cases hF
      refine hQ _ _ ?_
      refine lv Try.results21 hA rfl ?_
      exact ⟨rfl, hS⟩
    replace hF := iff' hb355 hF
    refine x_off hb355 hA (fun ac hA => ?_) rfl rfl rfl rfl rfl
    refine x_off hb355 hA (fun ac hA => ?_) rfl rfl rfl rfl rfl
    refine x_off hb355 hA (fun ac hA => ?_) rfl rfl rfl rfl rfl
    refine x_pickf hb355 hA (fun ac hA => ?_) rfl rfl rfl rfl rfl rfl
    refine x_assign hA (fun ac hA => ?_) rfl rfl rfl rfl rfl
    refine wpList_nil ?_
    refine hK354 _ _ ?_
    refine wp_ret ?_
    cases hF
    refine hQ _ _ ?_
    refine lv Try.results21 hA rfl ?_
    exact ⟨rfl, hS⟩
  obtain ⟨t410, hl410, hF⟩ := bnd hF
  have hR410 := hF
  have hx410_0 : (.inl ()) = t410 → ∀ (ac : Act) (w : World), FR 39 [] ac [(0, str a0)] → SH r (L) w → Kx271 ac w := by
    intro ht ac w hA hS
    subst ht
    replace hF : files_Form_x1_0 a0 = some y := hF
    unfold files_Form_x1_0 at hF
    exact hb1 hF ac w (hA.sub _ rfl) hS
  refine wp_loop_fn hl410 (fun s ac w => FR 39 [] ac [(0, str a0), (6, .int .i64 (a0.length : Int)), (7, .int .i64 s)] ∧ SH r (L) w) ⟨hA.sub _ rfl, hS⟩ ?_
  intro N410 s410 o410 hF N410_ T410_ ac w hLab
  obtain ⟨x383, rfl⟩ : ∃ q, q = s410 := ⟨_, rfl⟩
  replace hF : files_Form_l1 a0 x383 = some o410 := hF
  unfold files_Form_l1 at hF
  try dsimp only at hLab
  obtain ⟨hA, hS⟩ := hLab
  refine wp_seq_k fun K412 hK412 => ?_
  refine wp_reg ?_
  refine x_val hA (r_ltI rfl (hA.ev rfl) (hA.ev rfl)) (fun ac hA => ?_) rfl rfl rfl
  refine wpList_nil ?_
  refine hK412 _ _ ?_
  refine wp_seq_k fun K413 hK413 => ?_
  refine c_if hA rfl (fun hb414 => ?_) fun hb414 => ?_
  · replace hF := ift hb414 hF
    refine wp_skip ?_
    refine hK413 _ _ ?_
    refine wp_seq_k fun K415 hK415 => ?_
    refine wp_block_k fun Kx416 hKx416 => ?_
    refine wp_seq_k fun K417 hK417 => ?_
    refine wp_reg ?_
    refine x_move hA (fun ac hA => ?_) rfl rfl rfl rfl rfl
    refine x_assign hA (fun ac hA => ?_) rfl rfl rfl rfl rfl
    refine wpList_nil ?_
    refine hK417 _ _ ?_
    refine wp_seq_k fun K418 hK418 => ?_
    refine wp_reg ?_
    refine x_move hA (fun ac hA => ?_) rfl rfl rfl rfl rfl
    refine x_move hA (fun ac hA => ?_) rfl rfl rfl rfl rfl
    obtain ⟨x419, h420, hF⟩ := bnd hF
    refine x_val hA (r_indexS Try.underlying9 rfl (hA.ev rfl) (hA.ev rfl) (at_some h420).1 (at_some h420).2.2) (fun ac hA => ?_) rfl rfl rfl
    refine x_assign hA (fun ac hA => ?_) rfl rfl rfl rfl rfl
    refine wpList_nil ?_
    refine hK418 _ _ ?_
    refine wp_seq_k fun K421 hK421 => ?_
    have hj1 : ∀ (b427 : Bool), files_Form_j1 x383 b427 = some o410 → ∀ (ac : Act) (w : World), FR 39 [] ac [(0, str a0), (6, .int .i64 (a0.length : Int)), (7, .int .i64 x383), (30, .bool b427)] → SH r (L) w → K421 ac w := by
      intro b427 hF ac w hA hS
      unfold files_Form_j1 at hF
      refine hK421 _ _ ?_
      refine c_if hA rfl (fun hb428 => ?_) fun hb428 => ?_
      · replace hF := ift hb428 hF
        refine wp_seq_k fun K429 hK429 => ?_
        refine wp_reg ?_
        refine x_assign hA (fun ac hA => ?_) rfl rfl rfl rfl rfl
        refine wpList_nil ?_
        refine hK429 _ _ ?_
        refine wp_ret ?_
        cases hF
        have ht := T410_ _ rfl
        subst ht
        replace hF := hR410
        replace hF : some false = some y := hF
        cases hF
        refine hQ _ _ ?_
        refine lv Try.results21 hA rfl ?_
        exact ⟨rfl, hS⟩
      replace hF := iff' hb428 hF
      refine wp_skip ?_
      refine hKx416 _ _ ?_
      refine hK415 _ _ ?_
      refine wp_reg ?_
      obtain ⟨x430, h431, hF⟩ := ltt_ hF
      refine x_val (v := .int .i64 x430) hA (rv_i h431 (r_add rfl (hA.ev rfl) (hA.ev rfl))) (fun ac hA => ?_) rfl rfl rfl
      refine x_move hA (fun ac hA => ?_) rfl rfl rfl rfl rfl
      refine wpList_nil ?_
      cases hF
      exact ⟨_, N410_ _ rfl, hA.sub _ rfl, hS⟩
    refine wp_reg ?_
    refine x_move hA (fun ac hA => ?_) rfl rfl rfl rfl rfl
    refine x_val hA (r_neI rfl (hA.ev rfl) (hA.ev rfl)) (fun ac hA => ?_) rfl rfl rfl
    refine x_move hA (fun ac hA => ?_) rfl rfl rfl rfl rfl
    refine bcase (b := (x419.toNat : Int) != 46) (fun hb432 => ?_) fun hb432 => ?_
    · replace hF := ift hb432 hF
      refine x_on hb432 hA ?_ rfl rfl rfl
      refine x_move hA (fun ac hA => ?_) rfl rfl rfl rfl rfl
      refine x_on hb432 hA ?_ rfl rfl rfl
      refine x_val hA (r_ltI rfl (hA.ev rfl) (hA.ev rfl)) (fun ac hA => ?_) rfl rfl rfl
      refine x_on hb432 hA ?_ rfl rfl rfl
      refine x_move hA (fun ac hA => ?_) rfl rfl rfl rfl rfl
      refine bcase (b := decide ((x419.toNat : Int) < 48)) (fun hb433 => ?_) fun hb433 => ?_
      · replace hF := ift hb433 hF
        refine x_off hb433 hA (fun ac hA => ?_) rfl rfl rfl rfl rfl
        refine x_off hb433 hA (fun ac hA => ?_) rfl rfl rfl rfl rfl
        refine x_on hb432 hA ?_ rfl rfl rfl
        refine x_pickt hb433 hA (fun ac hA => ?_) rfl rfl rfl rfl rfl rfl
        refine x_pickt hb432 hA (fun ac hA => ?_) rfl rfl rfl rfl rfl rfl
        refine x_move hA (fun ac hA => ?_) rfl rfl rfl rfl rfl
        refine x_on rfl hA ?_ rfl rfl rfl
        refine x_move hA (fun ac hA => ?_) rfl rfl rfl rfl rfl
        refine x_on rfl hA ?_ rfl rfl rfl
        refine x_val hA (r_ltI rfl (hA.ev rfl) (hA.ev rfl)) (fun ac hA => ?_) rfl rfl rfl
        refine x_on rfl hA ?_ rfl rfl rfl
        refine x_move hA (fun ac hA => ?_) rfl rfl rfl rfl rfl
        refine bcase (b := decide ((x419.toNat : Int) < 97)) (fun hb434 => ?_) fun hb434 => ?_
        · replace hF := ift hb434 hF
          refine x_off hb434 hA (fun ac hA => ?_) rfl rfl rfl rfl rfl
          refine x_off hb434 hA (fun ac hA => ?_) rfl rfl rfl rfl rfl
          refine x_on rfl hA ?_ rfl rfl rfl
          refine x_pickt hb434 hA (fun ac hA => ?_) rfl rfl rfl rfl rfl rfl
          refine x_pickt rfl hA (fun ac hA => ?_) rfl rfl rfl rfl rfl rfl
          refine wpList_nil ?_
          exact hj1 true hF ac w (hA.sub _ rfl) hS
        replace hF := iff' hb434 hF
        refine x_on hb434 hA ?_ rfl rfl rfl
        refine x_move hA (fun ac hA => ?_) rfl rfl rfl rfl rfl
        refine x_on hb434 hA ?_ rfl rfl rfl
        refine x_val hA (r_gtI rfl (hA.ev rfl) (hA.ev rfl)) (fun ac hA => ?_) rfl rfl rfl
        refine x_on rfl hA ?_ rfl rfl rfl
        refine x_pickf hb434 hA (fun ac hA => ?_) rfl rfl rfl rfl rfl rfl
        refine x_pickt rfl hA (fun ac hA => ?_) rfl rfl rfl rfl rfl rfl
        refine wpList_nil ?_
        exact hj1 (decide (122 < (x419.toNat : Int))) hF ac w (hA.sub _ rfl) hS
      replace hF := iff' hb433 hF
      refine x_on hb433 hA ?_ rfl rfl rfl
      refine x_move hA (fun ac hA => ?_) rfl rfl rfl rfl rfl
      refine x_on hb433 hA ?_ rfl rfl rfl
      refine x_val hA (r_gtI rfl (hA.ev rfl) (hA.ev rfl)) (fun ac hA => ?_) rfl rfl rfl
      refine x_on hb432 hA ?_ rfl rfl rfl
      refine x_pickf hb433 hA (fun ac hA => ?_) rfl rfl rfl rfl rfl rfl
      refine x_pickt hb432 hA (fun ac hA => ?_) rfl rfl rfl rfl rfl rfl
      refine x_move hA (fun ac hA => ?_) rfl rfl rfl rfl rfl
      refine bcase (b := decide (57 < (x419.toNat : Int))) (fun hb435 => ?_) fun hb435 => ?_
      · replace hF := ift hb435 hF
        refine x_on hb435 hA ?_ rfl rfl rfl
        refine x_move hA (fun ac hA => ?_) rfl rfl rfl rfl rfl
        refine x_on hb435 hA ?_ rfl rfl rfl
        refine x_val hA (r_ltI rfl (hA.ev rfl) (hA.ev rfl)) (fun ac hA => ?_) rfl rfl rfl
        refine x_on hb435 hA ?_ rfl rfl rfl
        refine x_move hA (fun ac hA => ?_) rfl rfl rfl rfl rfl
        refine bcase (b := decide ((x419.toNat : Int) < 97)) (fun hb436 => ?_) fun hb436 => ?_
        · replace hF := ift hb436 hF
          refine x_off hb436 hA (fun ac hA => ?_) rfl rfl rfl rfl rfl
          refine x_off hb436 hA (fun ac hA => ?_) rfl rfl rfl rfl rfl
          refine x_on hb435 hA ?_ rfl rfl rfl
          refine x_pickt hb436 hA (fun ac hA => ?_) rfl rfl rfl rfl rfl rfl
          refine x_pickt hb435 hA (fun ac hA => ?_) rfl rfl rfl rfl rfl rfl
          refine wpList_nil ?_
          exact hj1 true hF ac w (hA.sub _ rfl) hS
        replace hF := iff' hb436 hF
        refine x_on hb436 hA ?_ rfl rfl rfl
        refine x_move hA (fun ac hA => ?_) rfl rfl rfl rfl rfl
        refine x_on hb436 hA ?_ rfl rfl rfl
        refine x_val hA (r_gtI rfl (hA.ev rfl) (hA.ev rfl)) (fun ac hA => ?_) rfl rfl rfl
        refine x_on hb435 hA ?_ rfl rfl rfl
        refine x_pickf hb436 hA (fun ac hA => ?_) rfl rfl rfl rfl rfl rfl
        refine x_pickt hb435 hA (fun ac hA => ?_) rfl rfl rfl rfl rfl rfl
        refine wpList_nil ?_
        exact hj1 (decide (122 < (x419.toNat : Int))) hF ac w (hA.sub _ rfl) hS
      replace hF := iff' hb435 hF
      refine x_off hb435 hA (fun ac hA => ?_) rfl rfl rfl rfl rfl
      refine x_off hb435 hA (fun ac hA => ?_) rfl rfl rfl rfl rfl
      refine x_off hb435 hA (fun ac hA => ?_) rfl rfl rfl rfl rfl
      refine x_offU hA (fun ac hA => ?_) rfl rfl rfl rfl rfl
      refine x_offU hA (fun ac hA => ?_) rfl rfl rfl rfl rfl
      refine x_off hb435 hA (fun ac hA => ?_) rfl rfl rfl rfl rfl
      refine x_pickf hb435 hA (fun ac hA => ?_) rfl rfl rfl rfl rfl rfl
      refine wpList_nil ?_
      exact hj1 false hF ac w (hA.sub _ rfl) hS
    replace hF := iff' hb432 hF
    refine x_off hb432 hA (fun ac hA => ?_) rfl rfl rfl rfl rfl
    refine x_off hb432 hA (fun ac hA => ?_) rfl rfl rfl rfl rfl
    refine x_off hb432 hA (fun ac hA => ?_) rfl rfl rfl rfl rfl
    refine x_offU hA (fun ac hA => ?_) rfl rfl rfl rfl rfl
    refine x_offU hA (fun ac hA => ?_) rfl rfl rfl rfl rfl
    refine x_off hb432 hA (fun ac hA => ?_) rfl rfl rfl rfl rfl
    refine x_pickf hb432 hA (fun ac hA => ?_) rfl rfl rfl rfl rfl rfl
    refine x_move hA (fun ac hA => ?_) rfl rfl rfl rfl rfl
    refine x_off rfl hA (fun ac hA => ?_) rfl rfl rfl rfl rfl
    refine x_off rfl hA (fun ac hA => ?_) rfl rfl rfl rfl rfl
    refine x_off rfl hA (fun ac hA => ?_) rfl rfl rfl rfl rfl
    refine x_offU hA (fun ac hA => ?_) rfl rfl rfl rfl rfl
    refine x_offU hA (fun ac hA => ?_) rfl rfl rfl rfl rfl
    refine x_off rfl hA (fun ac hA => ?_) rfl rfl rfl rfl rfl
    refine x_pickf rfl hA (fun ac hA => ?_) rfl rfl rfl rfl rfl rfl
    refine wpList_nil ?_
    exact hj1 false hF ac w (hA.sub _ rfl) hS
  replace hF := iff' hb414 hF
  refine wp_exit ?_
  cases hF
  exact hx410_0 (T410_ _ rfl) ac w (hA.sub _ rfl) hS

set_option maxHeartbeats 4000000 in
theorem F_files_Store_find_1 {r : World} {L : List HP} {w : World} (a0 : S73) (a1 : (List UInt8)) (A0 : Option Addr) (n0 : Nat) (c0 : Nat) {y : (Int)} (hF : files_Store_find_1 a0 a1 = some y) (hS : SH r (L) w) :
    Ret Try.prog 50 #[.agg #[str a0.f0, .slice A0 n0 c0, .int .i64 a0.f2], str a1] w fun v w' => v = .int .i64 y ∧ SH r (L) w' := by
  refine enter Try.func50 rfl Try.ntmps50 [(0, .agg #[str a0.f0, .slice A0 n0 c0, .int .i64 a0.f2]), (1, str a1)] rfl (by simp) ?_
  intro ac hA Qf hQ hQn
  unfold files_Store_find_1 at hF
  refine wp_seq_k fun K101 hK101 => ?_
  refine wp_reg ?_
  refine x_box hA hS (fun g102 ac w hS hA => ?_) rfl rfl rfl rfl rfl rfl
  refine x_assign hA (fun ac hA => ?_) rfl rfl rfl rfl rfl
  refine wpList_nil ?_
  refine hK101 _ _ ?_
  refine wp_seq_k fun K103 hK103 => ?_
  refine wp_block_k fun Kx104 hKx104 => ?_
  refine wp_seq_k fun K105 hK105 => ?_
  refine wp_reg ?_
  refine x_fab fa73_0 hA (fun ac hA => ?_) rfl rfl rfl rfl rfl
  refine x_ld Try.underlying9 (hS.cell 0 rfl 0 _ rfl) hA (fun ac hA => ?_) rfl rfl rfl rfl rfl rfl
  refine x_move hA (fun ac hA => ?_) rfl rfl rfl rfl rfl
  refine x_val hA (r_ltS rfl (hA.ev rfl) (hA.ev rfl)) (fun ac hA => ?_) rfl rfl rfl
  refine x_assign hA (fun ac hA => ?_) rfl rfl rfl rfl rfl
  refine wpList_nil ?_
  refine hK105 _ _ ?_
  refine c_if hA rfl (fun hb106 => ?_) fun hb106 => ?_
  · replace hF := ift hb106 hF
    refine wp_seq_k fun K107 hK107 => ?_
    refine wp_reg ?_
    refine x_assign hA (fun ac hA => ?_) rfl rfl rfl rfl rfl
    refine wpList_nil ?_
    refine hK107 _ _ ?_
    refine wp_ret ?_
    replace hS := hS.drop 0
    cases hF
    refine hQ _ _ ?_
    refine lv Try.results50 hA rfl ?_
    exact ⟨rfl, hS⟩
  replace hF := iff' hb106 hF
  refine wp_seq_k fun K108 hK108 => ?_
  refine wp_reg ?_
  refine x_fab fa73_0 hA (fun ac hA => ?_) rfl rfl rfl rfl rfl
  refine x_ld Try.underlying9 (hS.cell 0 rfl 0 _ rfl) hA (fun ac hA => ?_) rfl rfl rfl rfl rfl rfl
  refine x_move hA (fun ac hA => ?_) rfl rfl rfl rfl rfl
  refine x_val hA (r_gtS rfl (hA.ev rfl) (hA.ev rfl)) (fun ac hA => ?_) rfl rfl rfl
  refine x_assign hA (fun ac hA => ?_) rfl rfl rfl rfl rfl
  refine wpList_nil ?_
  refine hK108 _ _ ?_
  refine c_if hA rfl (fun hb109 => ?_) fun hb109 => ?_
  · replace hF := ift hb109 hF
    refine wp_seq_k fun K110 hK110 => ?_
    refine wp_reg ?_
    refine x_assign hA (fun ac hA => ?_) rfl rfl rfl rfl rfl
    refine wpList_nil ?_
    refine hK110 _ _ ?_
    refine wp_ret ?_
    replace hS := hS.drop 0
    cases hF
    refine hQ _ _ ?_
    refine lv Try.results50 hA rfl ?_
    exact ⟨rfl, hS⟩
  replace hF := iff' hb109 hF
  refine wp_skip ?_
  refine hKx104 _ _ ?_
  refine hK103 _ _ ?_
  refine wp_seq_k fun K111 hK111 => ?_
  refine wp_reg ?_
  refine x_assign hA (fun ac hA => ?_) rfl rfl rfl rfl rfl
  refine wpList_nil ?_
  refine hK111 _ _ ?_
  refine wp_ret ?_
  replace hS := hS.drop 0
  cases hF
  refine hQ _ _ ?_
  refine lv Try.results50 hA rfl ?_
  exact ⟨rfl, hS⟩

set_option maxHeartbeats 4000000 in
theorem F_slices_BinarySearchFunc_files_file_files_file_string {r : World} {L : List HP} {w : World} (a0 : (List S73)) (a1 : (List UInt8)) (A0 : Option Addr) (n0 : Nat) (c0 : Nat) {y : (Int × Bool)} (hF : slices_BinarySearchFunc_files_file_files_file_string a0 a1 = some y) (ha0 : RdL L (kL kp73 (fun x : S73 => x.f1)) A0 n0 c0 a0) (hS : SH r (L) w) :
    Ret Try.prog 49 #[.slice A0 n0 c0, str a1, .func (.func 50) #[] #[]] w fun v w' => v = .tuple #[(.int .i64 y.1), (.bool y.2)] ∧ SH r (L) w' := by
  refine enter Try.func49 rfl Try.ntmps49 [(0, .slice A0 n0 c0), (1, str a1), (2, .func (.func 50) #[] #[])] rfl (by simp) ?_
  intro ac hA Qf hQ hQn
  unfold slices_BinarySearchFunc_files_file_files_file_string at hF
  refine wp_seq_k fun K101 hK101 => ?_
  refine wp_reg ?_
  refine x_assign hA (fun ac hA => ?_) rfl rfl rfl rfl rfl
  refine x_assign hA (fun ac hA => ?_) rfl rfl rfl rfl rfl
  refine wpList_nil ?_
  refine hK101 _ _ ?_
  refine wp_seq_k fun K102 hK102 => ?_
  refine wp_reg ?_
  refine x_move hA (fun ac hA => ?_) rfl rfl rfl rfl rfl
  refine x_len Try.underlying66 (hS.rdl 0 ha0 rfl).2.1 hA (fun ac hA => ?_) rfl rfl rfl rfl rfl
  refine x_assign hA (fun ac hA => ?_) rfl rfl rfl rfl rfl
  refine wpList_nil ?_
  refine hK102 _ _ ?_
  refine wp_seq_k fun K103 hK103 => ?_
  refine wp_reg ?_
  refine x_move hA (fun ac hA => ?_) rfl rfl rfl rfl rfl
  refine x_assign hA (fun ac hA => ?_) rfl rfl rfl rfl rfl
  refine x_assign hA (fun ac hA => ?_) rfl rfl rfl rfl rfl
  refine wpList_nil ?_
  refine hK103 _ _ ?_
  refine wp_seq_k fun K104 hK104 => ?_
  refine wp_block_k fun Kx430 hKx430 => ?_
  have hb1 : ∀ (x592 : Int), slices_BinarySearchFunc_files_file_files_file_string_b1 a0 a1 x592 = some y → ∀ (ac : Act) (w : World), FR 49 [] ac [(0, .slice A0 n0 c0), (1, str a1), (2, .func (.func 50) #[] #[]), (8, .int .i64 (a0.length : Int)), (9, .int .i64 x592)] → SH r (L) w → Kx430 ac w := by
    intro x592 hF ac w hA hS
    unfold slices_BinarySearchFunc_files_file_files_file_string_b1 at hF
    refine hKx430 _ _ ?_
    refine hK104 _ _ ?_
    refine wp_seq_k fun K593 hK593 => ?_
    refine wp_reg ?_
    refine x_move hA (fun ac hA => ?_) rfl rfl rfl rfl rfl
    refine x_move hA (fun ac hA => ?_) rfl rfl rfl rfl rfl
    refine x_move hA (fun ac hA => ?_) rfl rfl rfl rfl rfl
    refine x_val hA (r_ltI rfl (hA.ev rfl) (hA.ev rfl)) (fun ac hA => ?_) rfl rfl rfl
    refine x_move hA (fun ac hA => ?_) rfl rfl rfl rfl rfl
    refine bcase (b := decide (x592 < (a0.length : Int))) (fun hb594 => ?_) fun hb594 => ?_
    · replace hF := ift hb594 hF
      refine x_on hb594 hA ?_ rfl rfl rfl
      refine x_move hA (fun ac hA => ?_) rfl rfl rfl rfl rfl
      refine x_on hb594 hA ?_ rfl rfl rfl
      refine x_move hA (fun ac hA => ?_) rfl rfl rfl rfl rfl
      refine x_on hb594 hA ?_ rfl rfl rfl
      refine x_move hA (fun ac hA => ?_) rfl rfl rfl rfl rfl
      refine x_on hb594 hA ?_ rfl rfl rfl
      obtain ⟨x595, h596, hF⟩ := bnd hF
      refine x_ia Try.underlying66 sz73 (hS.rdl 0 ha0 rfl) h596 hA (fun ac hA => ?_) rfl rfl rfl rfl rfl rfl
      refine x_on hb594 hA ?_ rfl rfl rfl
      obtain ⟨cs, hV, hc597⟩ := el (hS.rdl 0 ha0 rfl) h596
      obtain ⟨⟨A598, n599, c600⟩, hV, h601⟩ := hV
      obtain rfl := hV
      refine x_lda (cs := [str x595.f0, .slice A598 n599 c600, .int .i64 x595.f2]) Try.underlying73 sz73 (fun j u h => by rw [ea_add]; exact hc597 _ _ h) hA (fun ac hA => ?_) rfl rfl rfl rfl rfl rfl
      refine x_on hb594 hA ?_ rfl rfl rfl
      refine x_move hA (fun ac hA => ?_) rfl rfl rfl rfl rfl
      refine x_on hb594 hA ?_ rfl rfl rfl
      obtain ⟨y602, h603, hF⟩ := bnd hF
      refine x_callv en50 hA (F_files_Store_find_1 (L := L) x595 a1 A598 n599 c600 h603 hS) (fun v ac w hR hA => ?_) rfl rfl rfl rfl rfl rfl rfl
      obtain ⟨rfl, hS⟩ := hR
      refine x_on hb594 hA ?_ rfl rfl rfl
      refine x_val hA (r_eqI rfl (hA.ev rfl) (hA.ev rfl)) (fun ac hA => ?_) rfl rfl rfl
      refine x_pickt hb594 hA (fun ac hA => ?_) rfl rfl rfl rfl rfl rfl
      refine x_assign hA (fun ac hA => ?_) rfl rfl rfl rfl rfl
      refine x_assign hA (fun ac hA => ?_) rfl rfl rfl rfl rfl
      refine wpList_nil ?_
      refine hK593 _ _ ?_
      refine wp_ret ?_
      cases hF
      refine hQ _ _ ?_
      refine lv2 Try.results49 hA rfl rfl ?_
      exact ⟨rfl, hS⟩
    replace hF := iff' hb594 hF
    refine x_off hb594 hA (fun ac hA => ?_) rfl rfl rfl rfl rfl
    refine x_off hb594 hA (fun ac hA => ?_) rfl rfl rfl rfl rfl
    refine x_off hb594 hA (fun ac hA => ?_) rfl rfl rfl rfl rfl
    refine x_off hb594 hA (fun ac hA => ?_) rfl rfl rfl rfl rfl
    refine x_off hb594 hA (fun ac hA => ?_) rfl rfl rfl rfl rfl
    refine x_off hb594 hA (fun ac hA => ?_) rfl rfl rfl rfl rfl
    refine x_off hb594 hA (fun ac hA => ?_) rfl rfl rfl rfl rfl
    refine x_off hb594 hA (fun ac hA => ?_) rfl rfl rfl rfl rfl
    refine x_pickf hb594 hA (fun ac hA => ?_) rfl rfl rfl rfl rfl rfl
    refine x_assign hA (fun ac hA => ?_) rfl rfl rfl rfl rfl
    refine x_assign hA (fun ac hA => ?_) rfl rfl rfl rfl rfl
    refine wpList_nil ?_
    refine hK593 _ _ ?_
    refine wp_ret ?_
    cases hF
    refine hQ _ _ ?_
    refine lv2 Try.results49 hA rfl rfl ?_
    exact ⟨rfl, hS⟩
  obtain ⟨t712, hl712, hF⟩ := bnd hF
  have hx712_0 : ∀ (x712 : Int), (x712) = t712 → ∀ (ac : Act) (w : World), FR 49 [] ac [(0, .slice A0 n0 c0), (1, str a1), (2, .func (.func 50) #[] #[]), (8, .int .i64 (a0.length : Int)), (9, .int .i64 x712)] → SH r (L) w → Kx430 ac w := by
    intro x712 ht ac w hA hS
    subst ht
    replace hF : slices_BinarySearchFunc_files_file_files_file_string_x1_0 a0 a1 x712 = some y := hF
    unfold slices_BinarySearchFunc_files_file_files_file_string_x1_0 at hF
    exact hb1 x712 hF ac w (hA.sub _ rfl) hS
  refine wp_loop_fn hl712 (fun s ac w => FR 49 [] ac [(0, .slice A0 n0 c0), (1, str a1), (2, .func (.func 50) #[] #[]), (8, .int .i64 (a0.length : Int)), (9, .int .i64 s.1), (10, .int .i64 s.2)] ∧ SH r (L) w) ⟨hA.sub _ rfl, hS⟩ ?_
  intro N712 s712 o712 hF N712_ T712_ ac w hLab
  obtain ⟨x657, x658⟩ := s712
  replace hF : slices_BinarySearchFunc_files_file_files_file_string_l1 a0 a1 x657 x658 = some o712 := hF
  unfold slices_BinarySearchFunc_files_file_files_file_string_l1 at hF
  try dsimp only at hLab
  obtain ⟨hA, hS⟩ := hLab
  refine wp_seq_k fun K714 hK714 => ?_
  refine wp_seq_k fun K715 hK715 => ?_
  refine wp_reg ?_
  refine x_move hA (fun ac hA => ?_) rfl rfl rfl rfl rfl
  refine x_move hA (fun ac hA => ?_) rfl rfl rfl rfl rfl
  refine x_val hA (r_ltI rfl (hA.ev rfl) (hA.ev rfl)) (fun ac hA => ?_) rfl rfl rfl
  refine wpList_nil ?_
  refine hK715 _ _ ?_
  refine c_if hA rfl (fun hb716 => ?_) fun hb716 => ?_
  · replace hF := ift hb716 hF
    refine wp_skip ?_
    refine hK714 _ _ ?_
    refine wp_block_k fun Kx717 hKx717 => ?_
    have hb2 : ∀ (x740 : Int) (x741 : Int), slices_BinarySearchFunc_files_file_files_file_string_b2 x740 x741 = some o712 → ∀ (ac : Act) (w : World), FR 49 [] ac [(0, .slice A0 n0 c0), (1, str a1), (2, .func (.func 50) #[] #[]), (8, .int .i64 (a0.length : Int)), (9, .int .i64 x740), (10, .int .i64 x741)] → SH r (L) w → Kx717 ac w := by
      intro x740 x741 hF ac w hA hS
      unfold slices_BinarySearchFunc_files_file_files_file_string_b2 at hF
      refine hKx717 _ _ ?_
      cases hF
      exact ⟨_, N712_ _ rfl, hA.sub _ rfl, hS⟩
    refine wp_seq_k fun K742 hK742 => ?_
    refine wp_reg ?_
    refine x_move hA (fun ac hA => ?_) rfl rfl rfl rfl rfl
    refine x_move hA (fun ac hA => ?_) rfl rfl rfl rfl rfl
    obtain ⟨x743, h744, hF⟩ := ltt_ hF
    refine x_val (v := .int .i64 x743) hA (rv_i h744 (r_add rfl (hA.ev rfl) (hA.ev rfl))) (fun ac hA => ?_) rfl rfl rfl
    obtain ⟨x745, h746, hF⟩ := ltt_ hF
    refine x_val (v := .int .u64 x745) hA (rv_i h746 (r_convI Try.underlying3 Try.underlying84 rfl (hA.ev rfl))) (fun ac hA => ?_) rfl rfl rfl
    obtain ⟨x747, h748, hF⟩ := ltt_ hF
    refine x_val (v := .int .u64 x747) hA (rv_i h748 (r_shr rfl (hA.ev rfl) (hA.ev rfl) (by decide))) (fun ac hA => ?_) rfl rfl rfl
    obtain ⟨x749, h750, hF⟩ := ltt_ hF
    refine x_val (v := .int .i64 x749) hA (rv_i h750 (r_convI Try.underlying84 Try.underlying3 rfl (hA.ev rfl))) (fun ac hA => ?_) rfl rfl rfl
    refine x_assign hA (fun ac hA => ?_) rfl rfl rfl rfl rfl
    refine wpList_nil ?_
    refine hK742 _ _ ?_
    refine wp_seq_k fun K751 hK751 => ?_
    refine wp_reg ?_
    refine x_move hA (fun ac hA => ?_) rfl rfl rfl rfl rfl
    refine x_move hA (fun ac hA => ?_) rfl rfl rfl rfl rfl
    refine x_move hA (fun ac hA => ?_) rfl rfl rfl rfl rfl
    obtain ⟨x752, h753, hF⟩ := bnd hF
    refine x_ia Try.underlying66 sz73 (hS.rdl 0 ha0 rfl) h753 hA (fun ac hA => ?_) rfl rfl rfl rfl rfl rfl
    obtain ⟨cs, hV, hc754⟩ := el (hS.rdl 0 ha0 rfl) h753
    obtain ⟨⟨A755, n756, c757⟩, hV, h758⟩ := hV
    obtain rfl := hV
    refine x_lda (cs := [str x752.f0, .slice A755 n756 c757, .int .i64 x752.f2]) Try.underlying73 sz73 (fun j u h => by rw [ea_add]; exact hc754 _ _ h) hA (fun ac hA => ?_) rfl rfl rfl rfl rfl rfl
    refine x_move hA (fun ac hA => ?_) rfl rfl rfl rfl rfl
    obtain ⟨y759, h760, hF⟩ := bnd hF
    refine x_callv en50 hA (F_files_Store_find_1 (L := L) x752 a1 A755 n756 c757 h760 hS) (fun v ac w hR hA => ?_) rfl rfl rfl rfl rfl rfl rfl
    obtain ⟨rfl, hS⟩ := hR
    refine x_val hA (r_ltI rfl (hA.ev rfl) (hA.ev rfl)) (fun ac hA => ?_) rfl rfl rfl
    refine wpList_nil ?_
    refine hK751 _ _ ?_
    refine c_if hA rfl (fun hb761 => ?_) fun hb761 => ?_
    · replace hF := ift hb761 hF
      refine wp_reg ?_
      refine x_move hA (fun ac hA => ?_) rfl rfl rfl rfl rfl
      obtain ⟨x762, h763, hF⟩ := ltt_ hF
      refine x_val (v := .int .i64 x762) hA (rv_i h763 (r_add rfl (hA.ev rfl) (hA.ev rfl))) (fun ac hA => ?_) rfl rfl rfl
      refine x_assign hA (fun ac hA => ?_) rfl rfl rfl rfl rfl
      refine wpList_nil ?_
      exact hb2 x762 x658 hF ac w (hA.sub _ rfl) hS
    replace hF := iff' hb761 hF
    refine wp_reg ?_
    refine x_move hA (fun ac hA => ?_) rfl rfl rfl rfl rfl
    refine x_assign hA (fun ac hA => ?_) rfl rfl rfl rfl rfl
    refine wpList_nil ?_
    exact hb2 x657 x749 hF ac w (hA.sub _ rfl) hS
  replace hF := iff' hb716 hF
  refine wp_exit ?_
  cases hF
  exact hx712_0 x657 (T712_ _ rfl) ac w (hA.sub _ rfl) hS

set_option maxHeartbeats 4000000 in
theorem F_files_Store_find {r : World} {L : List HP} {w : World} (a0 : S68) (a1 : (List UInt8)) (g0 : Nat) (A0_0 : Option Addr) (n0_0 : Nat) (c0_0 : Nat) {y : (Int × Bool)} (hF : files_Store_find a0 a1 = some y) (hS : SH r (blk g0 68 [.slice A0_0 n0_0 c0_0, .int .i64 a0.f1, .int .i64 a0.f2, .bool a0.f3, .int .i64 a0.f4] :: own2 kp73 (kI .u8) 5 (fun x : S73 => x.f1) 73 A0_0 n0_0 c0_0 a0.f0 :: L) w) :
    Ret Try.prog 36 #[.pointer (some ⟨g0, 0, none⟩), str a1] w fun v w' => v = .tuple #[(.int .i64 y.1), (.bool y.2)] ∧ SH r (blk g0 68 [.slice A0_0 n0_0 c0_0, .int .i64 a0.f1, .int .i64 a0.f2, .bool a0.f3, .int .i64 a0.f4] :: own2 kp73 (kI .u8) 5 (fun x : S73 => x.f1) 73 A0_0 n0_0 c0_0 a0.f0 :: L) w' := by
  refine enter Try.func36 rfl Try.ntmps36 [(0, .pointer (some ⟨g0, 0, none⟩)), (1, str a1)] rfl (by simp) ?_
  intro ac hA Qf hQ hQn
  unfold files_Store_find at hF
  refine wp_seq_k fun K101 hK101 => ?_
  refine wp_reg ?_
  refine x_assign hA (fun ac hA => ?_) rfl rfl rfl rfl rfl
  refine x_assign hA (fun ac hA => ?_) rfl rfl rfl rfl rfl
  refine wpList_nil ?_
  refine hK101 _ _ ?_
  refine wp_seq_k fun K102 hK102 => ?_
  refine wp_reg ?_
  refine x_move hA (fun ac hA => ?_) rfl rfl rfl rfl rfl
  refine x_val hA (r_nilCheck rfl (hA.ev rfl)) (fun ac hA => ?_) rfl rfl rfl
  refine x_fab fa68_0 hA (fun ac hA => ?_) rfl rfl rfl rfl rfl
  refine x_ld Try.underlying66 (hS.cell 0 rfl 0 _ rfl) hA (fun ac hA => ?_) rfl rfl rfl rfl rfl rfl
  refine x_move hA (fun ac hA => ?_) rfl rfl rfl rfl rfl
  obtain ⟨y103, h104, hF⟩ := bnd hF
  refine x_call en49 hA (F_slices_BinarySearchFunc_files_file_files_file_string (L := blk g0 68 [.slice A0_0 n0_0 c0_0, .int .i64 a0.f1, .int .i64 a0.f2, .bool a0.f3, .int .i64 a0.f4] :: own2 kp73 (kI .u8) 5 (fun x : S73 => x.f1) 73 A0_0 n0_0 c0_0 a0.f0 :: L) a0.f0 a1 A0_0 n0_0 c0_0 h104 (RdL.own2 1 rfl (hS.dropN 0)) hS) (fun v ac w hR hA => ?_) rfl rfl rfl rfl rfl
  obtain ⟨rfl, hS⟩ := hR
  refine x_val hA (r_extract rfl (hA.ev rfl) rfl) (fun ac hA => ?_) rfl rfl rfl
  refine x_val hA (r_extract rfl (hA.ev rfl) rfl) (fun ac hA => ?_) rfl rfl rfl
  refine x_assign hA (fun ac hA => ?_) rfl rfl rfl rfl rfl
  refine x_assign hA (fun ac hA => ?_) rfl rfl rfl rfl rfl
  refine wpList_nil ?_
  refine hK102 _ _ ?_
  refine wp_ret ?_
  replace hS := hS.pk 1
  replace hS := hS.pk 1
  cases hF
  refine hQ _ _ ?_
  refine lv2 Try.results36 hA rfl rfl ?_
  exact ⟨rfl, hS⟩

set_option maxHeartbeats 4000000 in
theorem F_files_Store_look {r : World} {L : List HP} {w : World} (a0 : (Option S68)) (a1 : (List UInt8)) (p0 : Option Addr) {y : (Int)} (hF : files_Store_look a0 a1 = some y) (hS : SH r (optP (obj68) p0 a0 :: L) w) :
    Ret Try.prog 35 #[.pointer p0, str a1] w fun v w' => v = .int .i64 y ∧ SH r (optP (obj68) p0 a0 :: L) w' := by
  refine enter Try.func35 rfl Try.ntmps35 [(0, .pointer p0), (1, str a1)] rfl (by simp) ?_
  intro ac hA Qf hQ hQn
  unfold files_Store_look at hF
  cases a0 with
  | none =>
    have hU := SH.unoptN hS
    clear hS
    obtain ⟨rfl, hS⟩ := hU
    refine wp_seq_k fun K103 hK103 => ?_
    refine wp_reg ?_
    refine x_assign hA (fun ac hA => ?_) rfl rfl rfl rfl rfl
    refine wpList_nil ?_
    refine hK103 _ _ ?_
    refine wp_seq_k fun K104 hK104 => ?_
    refine wp_block_k fun Kx105 hKx105 => ?_
    refine wp_seq_k fun K106 hK106 => ?_
    refine wp_reg ?_
    refine x_move hA (fun ac hA => ?_) rfl rfl rfl rfl rfl
    refine x_val (v := .bool true) hA (r_eqNilP (p := none) Try.underlying24 rfl (hA.ev rfl) (hA.ev rfl)) (fun ac hA => ?_) rfl rfl rfl
    refine x_assign hA (fun ac hA => ?_) rfl rfl rfl rfl rfl
    refine wpList_nil ?_
    refine hK106 _ _ ?_
    refine c_t (b := true) rfl hA ?_ rfl
    refine wp_seq_k fun K107 hK107 => ?_
    refine wp_reg ?_
    refine x_assign hA (fun ac hA => ?_) rfl rfl rfl rfl rfl
    refine wpList_nil ?_
    refine hK107 _ _ ?_
    refine wp_ret ?_
    replace hS := SH.optN (obj68) hS
    cases hF
    refine hQ _ _ ?_
    refine lv Try.results35 hA rfl ?_
    exact ⟨rfl, hS⟩
  | some x101 =>
    have hU := SH.unoptS hS
    clear hS
    obtain ⟨g102, rfl, hS⟩ := hU
    obtain ⟨A108, n109, c110, hS⟩ := obj68_open hS
    refine wp_seq_k fun K111 hK111 => ?_
    refine wp_reg ?_
    refine x_assign hA (fun ac hA => ?_) rfl rfl rfl rfl rfl
    refine wpList_nil ?_
    refine hK111 _ _ ?_
    refine wp_seq_k fun K112 hK112 => ?_
    refine wp_block_k fun Kx113 hKx113 => ?_
    refine wp_seq_k fun K114 hK114 => ?_
    refine wp_reg ?_
    refine x_move hA (fun ac hA => ?_) rfl rfl rfl rfl rfl
    refine x_val (v := .bool false) hA (r_eqNilP (p := some ⟨g102, 0, none⟩) Try.underlying24 rfl (hA.ev rfl) (hA.ev rfl)) (fun ac hA => ?_) rfl rfl rfl
    refine x_assign hA (fun ac hA => ?_) rfl rfl rfl rfl rfl
    refine wpList_nil ?_
    refine hK114 _ _ ?_
    refine c_f (b := false) rfl hA ?_ rfl
    refine wp_seq_k fun K115 hK115 => ?_
    refine wp_reg ?_
    refine x_move hA (fun ac hA => ?_) rfl rfl rfl rfl rfl
    obtain ⟨y116, h117, hF⟩ := bnd hF
    refine x_call en21 hA (F_files_Form (L := blk g102 68 [.slice A108 n109 c110, .int .i64 x101.f1, .int .i64 x101.f2, .bool x101.f3, .int .i64 x101.f4] :: own2 kp73 (kI .u8) 5 (fun x : S73 => x.f1) 73 A108 n109 c110 x101.f0 :: L) a1 h117 hS) (fun v ac w hR hA => ?_) rfl rfl rfl rfl rfl
    obtain ⟨rfl, hS⟩ := hR
    refine x_val hA (r_not rfl (hA.ev rfl)) (fun ac hA => ?_) rfl rfl rfl
    refine x_assign hA (fun ac hA => ?_) rfl rfl rfl rfl rfl
    refine wpList_nil ?_
    refine hK115 _ _ ?_
    refine c_if hA rfl (fun hb118 => ?_) fun hb118 => ?_
    · replace hF := ift hb118 hF
      refine wp_seq_k fun K119 hK119 => ?_
      refine wp_reg ?_
      refine x_assign hA (fun ac hA => ?_) rfl rfl rfl rfl rfl
      refine wpList_nil ?_
      refine hK119 _ _ ?_
      refine wp_ret ?_
      replace hS := hS.pk 1
      replace hS := hS.pk 1
      replace hS := obj68_mk (x := x101) hS
      replace hS := SH.optS hS
      cases hF
      refine hQ _ _ ?_
      refine lv Try.results35 hA rfl ?_
      exact ⟨rfl, hS⟩
    replace hF := iff' hb118 hF
    refine wp_seq_k fun K120 hK120 => ?_
    refine wp_reg ?_
    refine x_move hA (fun ac hA => ?_) rfl rfl rfl rfl rfl
    refine x_val hA (r_nilCheck rfl (hA.ev rfl)) (fun ac hA => ?_) rfl rfl rfl
    refine x_fab fa68_3 hA (fun ac hA => ?_) rfl rfl rfl rfl rfl
    refine x_ld Try.underlying4 (hS.cell 0 rfl 3 _ rfl) hA (fun ac hA => ?_) rfl rfl rfl rfl rfl rfl
    refine x_assign hA (fun ac hA => ?_) rfl rfl rfl rfl rfl
    refine wpList_nil ?_
    refine hK120 _ _ ?_
    refine c_if hA rfl (fun hb121 => ?_) fun hb121 => ?_
    · replace hF := ift hb121 hF
      refine wp_seq_k fun K122 hK122 => ?_
      refine wp_reg ?_
      refine x_assign hA (fun ac hA => ?_) rfl rfl rfl rfl rfl
      refine wpList_nil ?_
      refine hK122 _ _ ?_
      refine wp_ret ?_
      replace hS := hS.pk 1
      replace hS := hS.pk 1
      replace hS := obj68_mk (x := x101) hS
      replace hS := SH.optS hS
      cases hF
      refine hQ _ _ ?_
      refine lv Try.results35 hA rfl ?_
      exact ⟨rfl, hS⟩
    replace hF := iff' hb121 hF
    refine wp_skip ?_
    refine hKx113 _ _ ?_
    refine hK112 _ _ ?_
    refine wp_seq_k fun K123 hK123 => ?_
    refine wp_reg ?_
    refine x_assign hA (fun ac hA => ?_) rfl rfl rfl rfl rfl
    refine wpList_nil ?_
    refine hK123 _ _ ?_
    refine wp_ret ?_
    replace hS := hS.pk 1
    replace hS := hS.pk 1
    replace hS := obj68_mk (x := x101) hS
    replace hS := SH.optS hS
    cases hF
    refine hQ _ _ ?_
    refine lv Try.results35 hA rfl ?_
    exact ⟨rfl, hS⟩

set_option maxHeartbeats 4000000 in
theorem F_files_Store_begin {r : World} {L : List HP} {w : World} (a0 : S68) (g0 : Nat) {y : (Bool × S68)} (hF : files_Store_begin a0 = some y) (hS : SH r (obj68 g0 a0 :: L) w) :
    Ret Try.prog 37 #[.pointer (some ⟨g0, 0, none⟩)] w fun v w' => v = .bool y.1 ∧ SH r (obj68 g0 y.2 :: L) w' := by
  refine enter Try.func37 rfl Try.ntmps37 [(0, .pointer (some ⟨g0, 0, none⟩))] rfl (by simp) ?_
  intro ac hA Qf hQ hQn
  unfold files_Store_begin at hF
  obtain ⟨A101, n102, c103, hS⟩ := obj68_open hS
  refine wp_seq_k fun K104 hK104 => ?_
  refine wp_reg ?_
  refine x_assign hA (fun ac hA => ?_) rfl rfl rfl rfl rfl
  refine wpList_nil ?_
  refine hK104 _ _ ?_
  refine wp_seq_k fun K105 hK105 => ?_
  refine wp_reg ?_
  refine x_move hA (fun ac hA => ?_) rfl rfl rfl rfl rfl
  refine x_val hA (r_nilCheck rfl (hA.ev rfl)) (fun ac hA => ?_) rfl rfl rfl
  refine x_fab fa68_4 hA (fun ac hA => ?_) rfl rfl rfl rfl rfl
  refine x_ld Try.underlying3 (hS.cell 0 rfl 4 _ rfl) hA (fun ac hA => ?_) rfl rfl rfl rfl rfl rfl
  obtain ⟨x106, h107, hF⟩ := ltt_ hF
  refine x_val (v := .int .i64 x106) hA (rv_i h107 (r_add rfl (hA.ev rfl) (hA.ev rfl))) (fun ac hA => ?_) rfl rfl rfl
  refine x_val hA (r_nilCheck rfl (hA.ev rfl)) (fun ac hA => ?_) rfl rfl rfl
  refine x_fab fa68_4 hA (fun ac hA => ?_) rfl rfl rfl rfl rfl
  refine x_stb 0 sz3 hA hS rfl (fun  ac w hS hA => ?_) rfl rfl rfl rfl rfl rfl rfl rfl
  refine wpList_nil ?_
  refine hK105 _ _ ?_
  refine wp_seq_k fun K108 hK108 => ?_
  have hj1 : ∀ (x114 : Int) (b115 : Bool), files_Store_begin_j1 a0 x106 x114 b115 = some y → ∀ (ac : Act) (w : World), FR 35 [] ac [(0, .pointer (some ⟨g0, 0, none⟩))] → SH r (blk g0 68 [.slice A101 n102 c103, .int .i64 a0.f1, .int .i64 x114, .bool b115, .int .i64 x106] :: own2 kp73 (kI .u8) 5 (fun x : S73 => x.f1) 73 A101 n102 c103 a0.f0 :: L) w → K108 ac w := by
    intro x114 b115 hF ac w hA hS
    unfold files_Store_begin_j1 at hF
    refine hK108 _ _ ?_
    refine wp_seq_k fun K116 hK116 => ?_
    refine wp_reg ?_
    refine x_move hA (fun ac hA => ?_) rfl rfl rfl rfl rfl
    refine x_val hA (r_nilCheck rfl (hA.ev rfl)) (fun ac hA => ?_) rfl rfl rfl
    refine x_fab fa68_3 hA (fun ac hA => ?_) rfl rfl rfl rfl rfl
    refine x_ld Try.underlying4 (hS.cell 0 rfl 3 _ rfl) hA (fun ac hA => ?_) rfl rfl rfl rfl rfl rfl
    refine x_val hA (r_not rfl (hA.ev rfl)) (fun ac hA => ?_) rfl rfl rfl
    refine x_assign hA (fun ac hA => ?_) rfl rfl rfl rfl rfl
    refine wpList_nil ?_
    refine hK116 _ _ ?_
    refine wp_ret ?_
    replace hS := hS.pk 1
    replace hS := hS.pk 1
    replace hS := obj68_mk (x := (⟨a0.f0, a0.f1, x114, b115, x106⟩ : S68)) hS
    cases hF
    refine hQ _ _ ?_
    refine lv Try.results37 hA rfl ?_
    exact ⟨rfl, hS⟩
  refine wp_seq_k fun K117 hK117 => ?_
  refine wp_reg ?_
  refine x_move hA (fun ac hA => ?_) rfl rfl rfl rfl rfl
  refine x_val hA (r_nilCheck rfl (hA.ev rfl)) (fun ac hA => ?_) rfl rfl rfl
  refine x_fab fa68_2 hA (fun ac hA => ?_) rfl rfl rfl rfl rfl
  refine x_ld Try.underlying3 (hS.cell 0 rfl 2 _ rfl) hA (fun ac hA => ?_) rfl rfl rfl rfl rfl rfl
  refine x_val hA (r_gtI rfl (hA.ev rfl) (hA.ev rfl)) (fun ac hA => ?_) rfl rfl rfl
  refine wpList_nil ?_
  refine hK117 _ _ ?_
  refine c_if hA rfl (fun hb118 => ?_) fun hb118 => ?_
  · replace hF := ift hb118 hF
    refine wp_seq_k fun K119 hK119 => ?_
    refine wp_reg ?_
    refine x_move hA (fun ac hA => ?_) rfl rfl rfl rfl rfl
    refine x_val hA (r_nilCheck rfl (hA.ev rfl)) (fun ac hA => ?_) rfl rfl rfl
    refine x_fab fa68_2 hA (fun ac hA => ?_) rfl rfl rfl rfl rfl
    refine x_ld Try.underlying3 (hS.cell 0 rfl 2 _ rfl) hA (fun ac hA => ?_) rfl rfl rfl rfl rfl rfl
    obtain ⟨x120, h121, hF⟩ := ltt_ hF
    refine x_val (v := .int .i64 x120) hA (rv_i h121 (r_sub rfl (hA.ev rfl) (hA.ev rfl))) (fun ac hA => ?_) rfl rfl rfl
    refine x_val hA (r_nilCheck rfl (hA.ev rfl)) (fun ac hA => ?_) rfl rfl rfl
    refine x_fab fa68_2 hA (fun ac hA => ?_) rfl rfl rfl rfl rfl
    refine x_stb 0 sz3 hA hS rfl (fun  ac w hS hA => ?_) rfl rfl rfl rfl rfl rfl rfl rfl
    refine wpList_nil ?_
    refine hK119 _ _ ?_
    refine wp_reg ?_
    refine x_move hA (fun ac hA => ?_) rfl rfl rfl rfl rfl
    refine x_move hA (fun ac hA => ?_) rfl rfl rfl rfl rfl
    refine x_val hA (r_nilCheck rfl (hA.ev rfl)) (fun ac hA => ?_) rfl rfl rfl
    refine x_fab fa68_2 hA (fun ac hA => ?_) rfl rfl rfl rfl rfl
    refine x_ld Try.underlying3 (hS.cell 0 rfl 2 _ rfl) hA (fun ac hA => ?_) rfl rfl rfl rfl rfl rfl
    refine x_val hA (r_eqI rfl (hA.ev rfl) (hA.ev rfl)) (fun ac hA => ?_) rfl rfl rfl
    refine x_val hA (r_nilCheck rfl (hA.ev rfl)) (fun ac hA => ?_) rfl rfl rfl
    refine x_fab fa68_3 hA (fun ac hA => ?_) rfl rfl rfl rfl rfl
    refine x_stb 0 sz4 hA hS rfl (fun  ac w hS hA => ?_) rfl rfl rfl rfl rfl rfl rfl rfl
    refine wpList_nil ?_
    exact hj1 x120 (x120 == 0) hF ac w (hA.sub _ rfl) hS
  replace hF := iff' hb118 hF
  refine wp_skip ?_
  exact hj1 a0.f2 a0.f3 hF ac w (hA.sub _ rfl) hS

set_option maxHeartbeats 4000000 in
theorem F_files_Store_On {r : World} {L : List HP} {w : World} (a0 : (Option S68)) (p0 : Option Addr) {y : (Bool)} (hF : files_Store_On a0 = some y) (hS : SH r (optP (obj68) p0 a0 :: L) w) :
    Ret Try.prog 23 #[.pointer p0] w fun v w' => v = .bool y ∧ SH r (optP (obj68) p0 a0 :: L) w' := by
  refine enter Try.func23 rfl Try.ntmps23 [(0, .pointer p0)] rfl (by simp) ?_
  intro ac hA Qf hQ hQn
  unfold files_Store_On at hF
  cases a0 with
  | none =>
    have hU := SH.unoptN hS
    clear hS
    obtain ⟨rfl, hS⟩ := hU
    refine wp_seq_k fun K103 hK103 => ?_
    refine wp_reg ?_
    refine x_assign hA (fun ac hA => ?_) rfl rfl rfl rfl rfl
    refine wpList_nil ?_
    refine hK103 _ _ ?_
    refine wp_seq_k fun K104 hK104 => ?_
    refine wp_reg ?_
    refine x_move hA (fun ac hA => ?_) rfl rfl rfl rfl rfl
    refine x_val (v := .bool false) hA (r_neNilP (p := none) Try.underlying24 rfl (hA.ev rfl) (hA.ev rfl)) (fun ac hA => ?_) rfl rfl rfl
    refine x_move hA (fun ac hA => ?_) rfl rfl rfl rfl rfl
    refine x_off rfl hA (fun ac hA => ?_) rfl rfl rfl rfl rfl
    refine x_off rfl hA (fun ac hA => ?_) rfl rfl rfl rfl rfl
    refine x_off rfl hA (fun ac hA => ?_) rfl rfl rfl rfl rfl
    refine x_off rfl hA (fun ac hA => ?_) rfl rfl rfl rfl rfl
    refine x_off rfl hA (fun ac hA => ?_) rfl rfl rfl rfl rfl
    refine x_pickf rfl hA (fun ac hA => ?_) rfl rfl rfl rfl rfl rfl
    refine x_assign hA (fun ac hA => ?_) rfl rfl rfl rfl rfl
    refine wpList_nil ?_
    refine hK104 _ _ ?_
    refine wp_ret ?_
    replace hS := SH.optN (obj68) hS
    cases hF
    refine hQ _ _ ?_
    refine lv Try.results23 hA rfl ?_
    exact ⟨rfl, hS⟩
  | some x101 =>
    have hU := SH.unoptS hS
    clear hS
    obtain ⟨g102, rfl, hS⟩ := hU
    obtain ⟨A105, n106, c107, hS⟩ := obj68_open hS
    refine wp_seq_k fun K108 hK108 => ?_
    refine wp_reg ?_
    refine x_assign hA (fun ac hA => ?_) rfl rfl rfl rfl rfl
    refine wpList_nil ?_
    refine hK108 _ _ ?_
    refine wp_seq_k fun K109 hK109 => ?_
    refine wp_reg ?_
    refine x_move hA (fun ac hA => ?_) rfl rfl rfl rfl rfl
    refine x_val (v := .bool true) hA (r_neNilP (p := some ⟨g102, 0, none⟩) Try.underlying24 rfl (hA.ev rfl) (hA.ev rfl)) (fun ac hA => ?_) rfl rfl rfl
    refine x_move hA (fun ac hA => ?_) rfl rfl rfl rfl rfl
    refine x_on rfl hA ?_ rfl rfl rfl
    refine x_move hA (fun ac hA => ?_) rfl rfl rfl rfl rfl
    refine x_on rfl hA ?_ rfl rfl rfl
    refine x_val hA (r_nilCheck rfl (hA.ev rfl)) (fun ac hA => ?_) rfl rfl rfl
    refine x_on rfl hA ?_ rfl rfl rfl
    refine x_fab fa68_3 hA (fun ac hA => ?_) rfl rfl rfl rfl rfl
    refine x_on rfl hA ?_ rfl rfl rfl
    refine x_ld Try.underlying4 (hS.cell 0 rfl 3 _ rfl) hA (fun ac hA => ?_) rfl rfl rfl rfl rfl rfl
    refine x_on rfl hA ?_ rfl rfl rfl
    refine x_val hA (r_not rfl (hA.ev rfl)) (fun ac hA => ?_) rfl rfl rfl
    refine x_pickt rfl hA (fun ac hA => ?_) rfl rfl rfl rfl rfl rfl
    refine x_assign hA (fun ac hA => ?_) rfl rfl rfl rfl rfl
    refine wpList_nil ?_
    refine hK109 _ _ ?_
    refine wp_ret ?_
    replace hS := hS.pk 1
    replace hS := hS.pk 1
    replace hS := obj68_mk (x := x101) hS
    replace hS := SH.optS hS
    cases hF
    refine hQ _ _ ?_
    refine lv Try.results23 hA rfl ?_
    exact ⟨rfl, hS⟩

set_option maxHeartbeats 4000000 in
theorem F_files_Store_Ops {r : World} {L : List HP} {w : World} (a0 : (Option S68)) (p0 : Option Addr) {y : (Int)} (hF : files_Store_Ops a0 = some y) (hS : SH r (optP (obj68) p0 a0 :: L) w) :
    Ret Try.prog 32 #[.pointer p0] w fun v w' => v = .int .i64 y ∧ SH r (optP (obj68) p0 a0 :: L) w' := by
  refine enter Try.func32 rfl Try.ntmps32 [(0, .pointer p0)] rfl (by simp) ?_
  intro ac hA Qf hQ hQn
  unfold files_Store_Ops at hF
  cases a0 with
  | none =>
    have hU := SH.unoptN hS
    clear hS
    obtain ⟨rfl, hS⟩ := hU
    refine wp_seq_k fun K103 hK103 => ?_
    refine wp_reg ?_
    refine x_assign hA (fun ac hA => ?_) rfl rfl rfl rfl rfl
    refine wpList_nil ?_
    refine hK103 _ _ ?_
    refine wp_seq_k fun K104 hK104 => ?_
    refine wp_seq_k fun K105 hK105 => ?_
    refine wp_reg ?_
    refine x_move hA (fun ac hA => ?_) rfl rfl rfl rfl rfl
    refine x_val (v := .bool true) hA (r_eqNilP (p := none) Try.underlying24 rfl (hA.ev rfl) (hA.ev rfl)) (fun ac hA => ?_) rfl rfl rfl
    refine wpList_nil ?_
    refine hK105 _ _ ?_
    refine c_t (b := true) rfl hA ?_ rfl
    refine wp_seq_k fun K106 hK106 => ?_
    refine wp_reg ?_
    refine x_assign hA (fun ac hA => ?_) rfl rfl rfl rfl rfl
    refine wpList_nil ?_
    refine hK106 _ _ ?_
    refine wp_ret ?_
    replace hS := SH.optN (obj68) hS
    cases hF
    refine hQ _ _ ?_
    refine lv Try.results32 hA rfl ?_
    exact ⟨rfl, hS⟩
  | some x101 =>
    have hU := SH.unoptS hS
    clear hS
    obtain ⟨g102, rfl, hS⟩ := hU
    obtain ⟨A107, n108, c109, hS⟩ := obj68_open hS
    refine wp_seq_k fun K110 hK110 => ?_
    refine wp_reg ?_
    refine x_assign hA (fun ac hA => ?_) rfl rfl rfl rfl rfl
    refine wpList_nil ?_
    refine hK110 _ _ ?_
    refine wp_seq_k fun K111 hK111 => ?_
    refine wp_seq_k fun K112 hK112 => ?_
    refine wp_reg ?_
    refine x_move hA (fun ac hA => ?_) rfl rfl rfl rfl rfl
    refine x_val (v := .bool false) hA (r_eqNilP (p := some ⟨g102, 0, none⟩) Try.underlying24 rfl (hA.ev rfl) (hA.ev rfl)) (fun ac hA => ?_) rfl rfl rfl
    refine wpList_nil ?_
    refine hK112 _ _ ?_
    refine c_f (b := false) rfl hA ?_ rfl
    refine wp_skip ?_
    refine hK111 _ _ ?_
    refine wp_seq_k fun K113 hK113 => ?_
    refine wp_reg ?_
    refine x_move hA (fun ac hA => ?_) rfl rfl rfl rfl rfl
    refine x_val hA (r_nilCheck rfl (hA.ev rfl)) (fun ac hA => ?_) rfl rfl rfl
    refine x_fab fa68_4 hA (fun ac hA => ?_) rfl rfl rfl rfl rfl
    refine x_ld Try.underlying3 (hS.cell 0 rfl 4 _ rfl) hA (fun ac hA => ?_) rfl rfl rfl rfl rfl rfl
    refine x_assign hA (fun ac hA => ?_) rfl rfl rfl rfl rfl
    refine wpList_nil ?_
    refine hK113 _ _ ?_
    refine wp_ret ?_
    replace hS := hS.pk 1
    replace hS := hS.pk 1
    replace hS := obj68_mk (x := x101) hS
    replace hS := SH.optS hS
    cases hF
    refine hQ _ _ ?_
    refine lv Try.results32 hA rfl ?_
    exact ⟨rfl, hS⟩

set_option maxHeartbeats 4000000 in
theorem F_files_Store_Used {r : World} {L : List HP} {w : World} (a0 : (Option S68)) (p0 : Option Addr) {y : (Int)} (hF : files_Store_Used a0 = some y) (hS : SH r (optP (obj68) p0 a0 :: L) w) :
    Ret Try.prog 16 #[.pointer p0] w fun v w' => v = .int .i64 y ∧ SH r (optP (obj68) p0 a0 :: L) w' := by
  refine enter Try.func16 rfl Try.ntmps16 [(0, .pointer p0)] rfl (by simp) ?_
  intro ac hA Qf hQ hQn
  unfold files_Store_Used at hF
  cases a0 with
  | none =>
    have hU := SH.unoptN hS
    clear hS
    obtain ⟨rfl, hS⟩ := hU
    refine wp_seq_k fun K103 hK103 => ?_
    refine wp_reg ?_
    refine x_assign hA (fun ac hA => ?_) rfl rfl rfl rfl rfl
    refine wpList_nil ?_
    refine hK103 _ _ ?_
    refine wp_seq_k fun K104 hK104 => ?_
    refine wp_reg ?_
    refine x_assign hA (fun ac hA => ?_) rfl rfl rfl rfl rfl
    refine wpList_nil ?_
    refine hK104 _ _ ?_
    refine wp_seq_k fun K105 hK105 => ?_
    refine wp_seq_k fun K107 hK107 => ?_
    refine wp_reg ?_
    refine x_move hA (fun ac hA => ?_) rfl rfl rfl rfl rfl
    refine x_val (v := .bool false) hA (r_neNilP (p := none) Try.underlying24 rfl (hA.ev rfl) (hA.ev rfl)) (fun ac hA => ?_) rfl rfl rfl
    refine wpList_nil ?_
    refine hK107 _ _ ?_
    refine c_f (b := false) rfl hA ?_ rfl
    refine wp_skip ?_
    refine hK105 _ _ ?_
    refine wp_seq_k fun K108 hK108 => ?_
    refine wp_reg ?_
    refine x_move hA (fun ac hA => ?_) rfl rfl rfl rfl rfl
    refine x_assign hA (fun ac hA => ?_) rfl rfl rfl rfl rfl
    refine wpList_nil ?_
    refine hK108 _ _ ?_
    refine wp_ret ?_
    replace hS := SH.optN (obj68) hS
    cases hF
    refine hQ _ _ ?_
    refine lv Try.results16 hA rfl ?_
    exact ⟨rfl, hS⟩
  | some x101 =>
    have hU := SH.unoptS hS
    clear hS
    obtain ⟨g102, rfl, hS⟩ := hU
    obtain ⟨A109, n110, c111, hS⟩ := obj68_open hS
    refine wp_seq_k fun K112 hK112 => ?_
    refine wp_reg ?_
    refine x_assign hA (fun ac hA => ?_) rfl rfl rfl rfl rfl
    refine wpList_nil ?_
    refine hK112 _ _ ?_
    refine wp_seq_k fun K113 hK113 => ?_
    refine wp_reg ?_
    refine x_assign hA (fun ac hA => ?_) rfl rfl rfl rfl rfl
    refine wpList_nil ?_
    refine hK113 _ _ ?_
    refine wp_seq_k fun K114 hK114 => ?_
    refine wp_seq_k fun K244 hK244 => ?_
    refine wp_reg ?_
    refine x_move hA (fun ac hA => ?_) rfl rfl rfl rfl rfl
    refine x_val (v := .bool true) hA (r_neNilP (p := some ⟨g102, 0, none⟩) Try.underlying24 rfl (hA.ev rfl) (hA.ev rfl)) (fun ac hA => ?_) rfl rfl rfl
    refine wpList_nil ?_
    refine hK244 _ _ ?_
    refine c_t (b := true) rfl hA ?_ rfl
    refine wp_seq_k fun K245 hK245 => ?_
    refine wp_reg ?_
    refine x_move hA (fun ac hA => ?_) rfl rfl rfl rfl rfl
    refine x_val hA (r_nilCheck rfl (hA.ev rfl)) (fun ac hA => ?_) rfl rfl rfl
    refine x_fab fa68_0 hA (fun ac hA => ?_) rfl rfl rfl rfl rfl
    refine x_ld Try.underlying66 (hS.cell 0 rfl 0 _ rfl) hA (fun ac hA => ?_) rfl rfl rfl rfl rfl rfl
    refine x_len Try.underlying66 (hS.rd2L 1 rfl).2.1 hA (fun ac hA => ?_) rfl rfl rfl rfl rfl
    refine x_move hA (fun ac hA => ?_) rfl rfl rfl rfl rfl
    refine wpList_nil ?_
    refine hK245 _ _ ?_
    refine wp_block_k fun Kx246 hKx246 => ?_
    have hb1 : ∀ (x309 : Int), files_Store_Used_b1 x309 = some y → ∀ (ac : Act) (w : World), FR 24 [] ac [(0, .pointer (some ⟨g102, 0, none⟩)), (3, .int .i64 x309)] → SH r (blk g102 68 [.slice A109 n110 c111, .int .i64 x101.f1, .int .i64 x101.f2, .bool x101.f3, .int .i64 x101.f4] :: own2 kp73 (kI .u8) 5 (fun x : S73 => x.f1) 73 A109 n110 c111 x101.f0 :: L) w → Kx246 ac w := by
      intro x309 hF ac w hA hS
      unfold files_Store_Used_b1 at hF
      refine hKx246 _ _ ?_
      refine hK114 _ _ ?_
      refine wp_seq_k fun K310 hK310 => ?_
      refine wp_reg ?_
      refine x_move hA (fun ac hA => ?_) rfl rfl rfl rfl rfl
      refine x_assign hA (fun ac hA => ?_) rfl rfl rfl rfl rfl
      refine wpList_nil ?_
      refine hK310 _ _ ?_
      refine wp_ret ?_
      replace hS := hS.pk 1
      replace hS := hS.pk 1
      replace hS := obj68_mk (x := x101) hS
      replace hS := SH.optS hS
      cases hF
      refine hQ _ _ ?_
      refine lv Try.results16 hA rfl ?_
      exact ⟨rfl, hS⟩
    obtain ⟨t353, hl353, hF⟩ := bnd hF
    have hx353_0 : ∀ (x353 : Int), (x353) = t353 → ∀ (ac : Act) (w : World), FR 24 [] ac [(0, .pointer (some ⟨g102, 0, none⟩)), (3, .int .i64 x353)] → SH r (blk g102 68 [.slice A109 n110 c111, .int .i64 x101.f1, .int .i64 x101.f2, .bool x101.f3, .int .i64 x101.f4] :: own2 kp73 (kI .u8) 5 (fun x : S73 => x.f1) 73 A109 n110 c111 x101.f0 :: L) w → Kx246 ac w := by
      intro x353 ht ac w hA hS
      subst ht
      replace hF : files_Store_Used_x1_0 x353 = some y := hF
      unfold files_Store_Used_x1_0 at hF
      exact hb1 x353 hF ac w (hA.sub _ rfl) hS
    refine wp_loop_fn hl353 (fun s ac w => FR 24 [] ac [(0, .pointer (some ⟨g102, 0, none⟩)), (3, .int .i64 s.1), (11, .slice A109 n110 c111), (12, .int .i64 (x101.f0.length : Int)), (13, .int .i64 s.2)] ∧ SH r (blk g102 68 [.slice A109 n110 c111, .int .i64 x101.f1, .int .i64 x101.f2, .bool x101.f3, .int .i64 x101.f4] :: own2 kp73 (kI .u8) 5 (fun x : S73 => x.f1) 73 A109 n110 c111 x101.f0 :: L) w) ⟨hA.sub _ rfl, hS⟩ ?_
    intro N353 s353 o353 hF N353_ T353_ ac w hLab
    obtain ⟨x331, x332⟩ := s353
    replace hF : files_Store_Used_l1 x101 x331 x332 = some o353 := hF
    unfold files_Store_Used_l1 at hF
    try dsimp only at hLab
    obtain ⟨hA, hS⟩ := hLab
    refine wp_seq_k fun K355 hK355 => ?_
    refine wp_reg ?_
    refine x_val hA (r_ltI rfl (hA.ev rfl) (hA.ev rfl)) (fun ac hA => ?_) rfl rfl rfl
    refine wpList_nil ?_
    refine hK355 _ _ ?_
    refine wp_seq_k fun K356 hK356 => ?_
    refine c_if hA rfl (fun hb357 => ?_) fun hb357 => ?_
    · replace hF := ift hb357 hF
      refine wp_skip ?_
      refine hK356 _ _ ?_
      refine wp_seq_k fun K358 hK358 => ?_
      refine wp_block_k fun Kx359 hKx359 => ?_
      refine wp_seq_k fun K360 hK360 => ?_
      refine wp_reg ?_
      obtain ⟨x361, h362, hF⟩ := bnd hF
      refine x_ia Try.underlying66 sz73 (hS.rd2L 1 rfl) h362 hA (fun ac hA => ?_) rfl rfl rfl rfl rfl rfl
      obtain ⟨cs, hV, hc363⟩ := el (hS.rd2L 1 rfl) h362
      obtain ⟨⟨A364, n365, c366⟩, hV, h367⟩ := hV
      obtain rfl := hV
      refine x_lda (cs := [str x361.f0, .slice A364 n365 c366, .int .i64 x361.f2]) Try.underlying73 sz73 (fun j u h => by rw [ea_add]; exact hc363 _ _ h) hA (fun ac hA => ?_) rfl rfl rfl rfl rfl rfl
      refine x_alloc (cs := [str [], .slice none 0 0, .int .i64 0]) zr73 hA hS (fun g368 ac w hS hA => ?_) rfl rfl rfl rfl rfl
      refine x_stb 0 sz73 hA hS rfl (fun  ac w hS hA => ?_) rfl rfl rfl rfl rfl rfl rfl rfl
      refine wpList_nil ?_
      refine hK360 _ _ ?_
      refine wp_reg ?_
      refine x_move hA (fun ac hA => ?_) rfl rfl rfl rfl rfl
      refine x_fab fa73_1 hA (fun ac hA => ?_) rfl rfl rfl rfl rfl
      refine x_ld Try.underlying22 (hS.cell 0 rfl 1 _ rfl) hA (fun ac hA => ?_) rfl rfl rfl rfl rfl rfl
      refine x_len Try.underlying22 (show x361.f1.length = n365 from h367) hA (fun ac hA => ?_) rfl rfl rfl rfl rfl
      obtain ⟨x369, h370, hF⟩ := ltt_ hF
      refine x_val (v := .int .i64 x369) hA (rv_i h370 (r_add rfl (hA.ev rfl) (hA.ev rfl))) (fun ac hA => ?_) rfl rfl rfl
      refine x_assign hA (fun ac hA => ?_) rfl rfl rfl rfl rfl
      refine wpList_nil ?_
      refine hKx359 _ _ ?_
      refine hK358 _ _ ?_
      refine wp_reg ?_
      obtain ⟨x371, h372, hF⟩ := ltt_ hF
      refine x_val (v := .int .i64 x371) hA (rv_i h372 (r_add rfl (hA.ev rfl) (hA.ev rfl))) (fun ac hA => ?_) rfl rfl rfl
      refine x_move hA (fun ac hA => ?_) rfl rfl rfl rfl rfl
      refine wpList_nil ?_
      replace hS := hS.drop 0
      cases hF
      exact ⟨_, N353_ _ rfl, hA.sub _ rfl, hS⟩
    replace hF := iff' hb357 hF
    refine wp_exit ?_
    cases hF
    exact hx353_0 x331 (T353_ _ rfl) ac w (hA.sub _ rfl) hS

set_option maxHeartbeats 4000000 in
theorem F_files_Store_List {r : World} {L : List HP} {w : World} (a0 : (Option S68)) (p0 : Option Addr) {y : ((List (List UInt8)))} (hF : files_Store_List a0 = some y) (hS : SH r (optP (obj68) p0 a0 :: L) w) :
    Ret Try.prog 14 #[.pointer p0] w fun v w' => ∃ (B0 : Option Addr) (m0 : Nat) (d0 : Nat), v = .slice B0 m0 d0 ∧ SH r (own kS 9 B0 m0 d0 y :: optP (obj68) p0 a0 :: L) w' := by
  refine enter Try.func14 rfl Try.ntmps14 [(0, .pointer p0)] rfl (by simp) ?_
  intro ac hA Qf hQ hQn
  unfold files_Store_List at hF
  cases a0 with
  | none =>
    have hU := SH.unoptN hS
    clear hS
    obtain ⟨rfl, hS⟩ := hU
    refine wp_seq_k fun K103 hK103 => ?_
    refine wp_reg ?_
    refine x_assign hA (fun ac hA => ?_) rfl rfl rfl rfl rfl
    refine wpList_nil ?_
    refine hK103 _ _ ?_
    refine wp_seq_k fun K104 hK104 => ?_
    refine wp_reg ?_
    refine x_assign hA (fun ac hA => ?_) rfl rfl rfl rfl rfl
    refine wpList_nil ?_
    refine hK104 _ _ ?_
    refine wp_seq_k fun K105 hK105 => ?_
    refine wp_seq_k fun K107 hK107 => ?_
    refine wp_reg ?_
    refine x_move hA (fun ac hA => ?_) rfl rfl rfl rfl rfl
    refine x_val (v := .bool false) hA (r_neNilP (p := none) Try.underlying24 rfl (hA.ev rfl) (hA.ev rfl)) (fun ac hA => ?_) rfl rfl rfl
    refine wpList_nil ?_
    refine hK107 _ _ ?_
    refine c_f (b := false) rfl hA ?_ rfl
    refine wp_skip ?_
    refine hK105 _ _ ?_
    refine wp_seq_k fun K108 hK108 => ?_
    refine wp_reg ?_
    refine x_move hA (fun ac hA => ?_) rfl rfl rfl rfl rfl
    refine x_assign hA (fun ac hA => ?_) rfl rfl rfl rfl rfl
    refine wpList_nil ?_
    refine hK108 _ _ ?_
    refine wp_ret ?_
    replace hS := SH.nil_own (d := kS) (e := 9) hS
    replace hS := SH.optN (obj68) hS
    replace hS := hS.pk 1
    cases hF
    refine hQ _ _ ?_
    refine lv Try.results14 hA rfl ?_
    exact ⟨none, 0, 0, rfl, hS⟩
  | some x101 =>
    have hU := SH.unoptS hS
    clear hS
    obtain ⟨g102, rfl, hS⟩ := hU
    obtain ⟨A109, n110, c111, hS⟩ := obj68_open hS
    refine wp_seq_k fun K112 hK112 => ?_
    refine wp_reg ?_
    refine x_assign hA (fun ac hA => ?_) rfl rfl rfl rfl rfl
    refine wpList_nil ?_
    refine hK112 _ _ ?_
    refine wp_seq_k fun K113 hK113 => ?_
    refine wp_reg ?_
    refine x_assign hA (fun ac hA => ?_) rfl rfl rfl rfl rfl
    refine wpList_nil ?_
    refine hK113 _ _ ?_
    refine wp_seq_k fun K114 hK114 => ?_
    refine wp_seq_k fun K305 hK305 => ?_
    refine wp_reg ?_
    refine x_move hA (fun ac hA => ?_) rfl rfl rfl rfl rfl
    refine x_val (v := .bool true) hA (r_neNilP (p := some ⟨g102, 0, none⟩) Try.underlying24 rfl (hA.ev rfl) (hA.ev rfl)) (fun ac hA => ?_) rfl rfl rfl
    refine wpList_nil ?_
    refine hK305 _ _ ?_
    refine c_t (b := true) rfl hA ?_ rfl
    refine wp_seq_k fun K306 hK306 => ?_
    refine wp_reg ?_
    refine x_move hA (fun ac hA => ?_) rfl rfl rfl rfl rfl
    refine x_val hA (r_nilCheck rfl (hA.ev rfl)) (fun ac hA => ?_) rfl rfl rfl
    refine x_fab fa68_0 hA (fun ac hA => ?_) rfl rfl rfl rfl rfl
    refine x_ld Try.underlying66 (hS.cell 0 rfl 0 _ rfl) hA (fun ac hA => ?_) rfl rfl rfl rfl rfl rfl
    refine x_len Try.underlying66 (hS.rd2L 1 rfl).2.1 hA (fun ac hA => ?_) rfl rfl rfl rfl rfl
    refine x_move hA (fun ac hA => ?_) rfl rfl rfl rfl rfl
    refine wpList_nil ?_
    refine hK306 _ _ ?_
    refine wp_block_k fun Kx307 hKx307 => ?_
    have hb1 : ∀ (l399 : (List (List UInt8))), files_Store_List_b1 l399 = some y → ∀ (A400 : Option Addr) (n401 : Nat) (c402 : Nat) (ac : Act) (w : World), FR 24 [] ac [(0, .pointer (some ⟨g102, 0, none⟩)), (3, .slice A400 n401 c402)] → SH r (blk g102 68 [.slice A109 n110 c111, .int .i64 x101.f1, .int .i64 x101.f2, .bool x101.f3, .int .i64 x101.f4] :: own2 kp73 (kI .u8) 5 (fun x : S73 => x.f1) 73 A109 n110 c111 x101.f0 :: own kS 9 A400 n401 c402 l399 :: L) w → Kx307 ac w := by
      intro l399 hF A400 n401 c402 ac w hA hS
      unfold files_Store_List_b1 at hF
      refine hKx307 _ _ ?_
      refine hK114 _ _ ?_
      refine wp_seq_k fun K403 hK403 => ?_
      refine wp_reg ?_
      refine x_move hA (fun ac hA => ?_) rfl rfl rfl rfl rfl
      refine x_assign hA (fun ac hA => ?_) rfl rfl rfl rfl rfl
      refine wpList_nil ?_
      refine hK403 _ _ ?_
      refine wp_ret ?_
      replace hS := hS.pk 1
      replace hS := hS.pk 1
      replace hS := obj68_mk (x := x101) hS
      replace hS := SH.optS hS
      replace hS := hS.pk 1
      cases hF
      refine hQ _ _ ?_
      refine lv Try.results14 hA rfl ?_
      exact ⟨A400, n401, c402, rfl, hS⟩
    obtain ⟨t472, hl472, hF⟩ := bnd hF
    have hx472_0 : ∀ (l469 : (List (List UInt8))), (l469) = t472 → ∀ (A470 : Option Addr) (n471 : Nat) (c472 : Nat) (ac : Act) (w : World), FR 24 [] ac [(0, .pointer (some ⟨g102, 0, none⟩)), (3, .slice A470 n471 c472)] → SH r (blk g102 68 [.slice A109 n110 c111, .int .i64 x101.f1, .int .i64 x101.f2, .bool x101.f3, .int .i64 x101.f4] :: own2 kp73 (kI .u8) 5 (fun x : S73 => x.f1) 73 A109 n110 c111 x101.f0 :: own kS 9 A470 n471 c472 l469 :: L) w → Kx307 ac w := by
      intro l469 ht A470 n471 c472 ac w hA hS
      subst ht
      replace hF : files_Store_List_x1_0 l469 = some y := hF
      unfold files_Store_List_x1_0 at hF
      exact hb1 l469 hF A470 n471 c472 ac w (hA.sub _ rfl) hS
    replace hS := SH.nil_own (d := kS) (e := 9) hS
    replace hS := hS.pk 2
    replace hS := hS.pk 2
    refine wp_loop_fn hl472 (fun s ac w => ∃ (A439 : Option Addr) (n440 : Nat) (c441 : Nat), FR 24 [] ac [(0, .pointer (some ⟨g102, 0, none⟩)), (3, .slice A439 n440 c441), (11, .slice A109 n110 c111), (12, .int .i64 (x101.f0.length : Int)), (13, .int .i64 s.2)] ∧ SH r (blk g102 68 [.slice A109 n110 c111, .int .i64 x101.f1, .int .i64 x101.f2, .bool x101.f3, .int .i64 x101.f4] :: own2 kp73 (kI .u8) 5 (fun x : S73 => x.f1) 73 A109 n110 c111 x101.f0 :: own kS 9 A439 n440 c441 s.1 :: L) w) ⟨none, 0, 0, hA.sub _ rfl, hS⟩ ?_
    intro N472 s472 o472 hF N472_ T472_ ac w hLab
    obtain ⟨l438, x442⟩ := s472
    replace hF : files_Store_List_l1 x101 l438 x442 = some o472 := hF
    unfold files_Store_List_l1 at hF
    try dsimp only at hLab
    obtain ⟨A439, n440, c441, hA, hS⟩ := hLab
    refine wp_seq_k fun K474 hK474 => ?_
    refine wp_reg ?_
    refine x_val hA (r_ltI rfl (hA.ev rfl) (hA.ev rfl)) (fun ac hA => ?_) rfl rfl rfl
    refine wpList_nil ?_
    refine hK474 _ _ ?_
    refine wp_seq_k fun K475 hK475 => ?_
    refine c_if hA rfl (fun hb476 => ?_) fun hb476 => ?_
    · replace hF := ift hb476 hF
      refine wp_skip ?_
      refine hK475 _ _ ?_
      refine wp_seq_k fun K477 hK477 => ?_
      refine wp_block_k fun Kx478 hKx478 => ?_
      refine wp_seq_k fun K479 hK479 => ?_
      refine wp_reg ?_
      obtain ⟨x480, h481, hF⟩ := bnd hF
      refine x_ia Try.underlying66 sz73 (hS.rd2L 1 rfl) h481 hA (fun ac hA => ?_) rfl rfl rfl rfl rfl rfl
      obtain ⟨cs, hV, hc482⟩ := el (hS.rd2L 1 rfl) h481
      obtain ⟨⟨A483, n484, c485⟩, hV, h486⟩ := hV
      obtain rfl := hV
      refine x_lda (cs := [str x480.f0, .slice A483 n484 c485, .int .i64 x480.f2]) Try.underlying73 sz73 (fun j u h => by rw [ea_add]; exact hc482 _ _ h) hA (fun ac hA => ?_) rfl rfl rfl rfl rfl rfl
      refine x_alloc (cs := [str [], .slice none 0 0, .int .i64 0]) zr73 hA hS (fun g487 ac w hS hA => ?_) rfl rfl rfl rfl rfl
      refine x_stb 0 sz73 hA hS rfl (fun  ac w hS hA => ?_) rfl rfl rfl rfl rfl rfl rfl rfl
      refine wpList_nil ?_
      refine hK479 _ _ ?_
      refine wp_reg ?_
      refine x_move hA (fun ac hA => ?_) rfl rfl rfl rfl rfl
      refine x_fab fa73_0 hA (fun ac hA => ?_) rfl rfl rfl rfl rfl
      refine x_ld Try.underlying9 (hS.cell 0 rfl 0 _ rfl) hA (fun ac hA => ?_) rfl rfl rfl rfl rfl rfl
      refine x_bsl (d := kS) (e := 9) (ps := #[(0, str x480.f0)]) (cells := [str x480.f0]) (xs := [x480.f0]) (fun w => by kernel_rfl) rfl ⟨[str x480.f0], _, rfl, rfl, rfl⟩ hA hS (fun g488 ac w hS hA => ?_) rfl rfl rfl rfl rfl rfl
      obtain ⟨h489, hF⟩ := chk_some hF
      have hr := hS.rd 0 rfl
      refine x_app 4 inf9 Try.underlying31 hA hS hr.1 hr.2.1 h489 rfl (fun A490 n491 c492 ac w hS hA => ?_) rfl rfl rfl rfl rfl rfl rfl rfl rfl
      refine x_assign hA (fun ac hA => ?_) rfl rfl rfl rfl rfl
      refine wpList_nil ?_
      refine hKx478 _ _ ?_
      refine hK477 _ _ ?_
      refine wp_reg ?_
      obtain ⟨x493, h494, hF⟩ := ltt_ hF
      refine x_val (v := .int .i64 x493) hA (rv_i h494 (r_add rfl (hA.ev rfl) (hA.ev rfl))) (fun ac hA => ?_) rfl rfl rfl
      refine x_move hA (fun ac hA => ?_) rfl rfl rfl rfl rfl
      refine wpList_nil ?_
      replace hS := hS.drop 1
      replace hS := hS.drop 1
      replace hS := hS.pk 2
      replace hS := hS.pk 2
      cases hF
      exact ⟨_, N472_ _ rfl, A490, n491, c492, hA.sub _ rfl, hS⟩
    replace hF := iff' hb476 hF
    refine wp_exit ?_
    cases hF
    exact hx472_0 l438 (T472_ _ rfl) A439 n440 c441 ac w (hA.sub _ rfl) hS

set_option maxHeartbeats 4000000 in
theorem F_files_New {r : World} {L : List HP} {w : World} (a0 : Int) {y : ((Option S68) × Int)} (hF : files_New a0 = some y) (hS : SH r (L) w) :
    Ret Try.prog 11 #[.int .i64 a0] w fun v w' => ∃ (p0 : Option Addr), v = .tuple #[(.pointer p0), (.int .i64 y.2)] ∧ SH r (optP (obj68) p0 y.1 :: L) w' := by
  refine enter Try.func11 rfl Try.ntmps11 [(0, .int .i64 a0)] rfl (by simp) ?_
  intro ac hA Qf hQ hQn
  unfold files_New at hF
  refine wp_seq_k fun K101 hK101 => ?_
  refine wp_reg ?_
  refine x_assign hA (fun ac hA => ?_) rfl rfl rfl rfl rfl
  refine x_assign hA (fun ac hA => ?_) rfl rfl rfl rfl rfl
  refine wpList_nil ?_
  refine hK101 _ _ ?_
  refine wp_seq_k fun K102 hK102 => ?_
  refine wp_seq_k fun K103 hK103 => ?_
  have hj1 : ∀ (b105 : Bool), files_New_j1 a0 b105 = some y → ∀ (ac : Act) (w : World), FR 13 [] ac [(0, .int .i64 a0), (9, .bool b105)] → SH r (L) w → K103 ac w := by
    intro b105 hF ac w hA hS
    unfold files_New_j1 at hF
    refine hK103 _ _ ?_
    refine c_if hA rfl (fun hb106 => ?_) fun hb106 => ?_
    · replace hF := ift hb106 hF
      refine wp_seq_k fun K107 hK107 => ?_
      refine wp_reg ?_
      refine x_assign hA (fun ac hA => ?_) rfl rfl rfl rfl rfl
      refine x_assign hA (fun ac hA => ?_) rfl rfl rfl rfl rfl
      refine wpList_nil ?_
      refine hK107 _ _ ?_
      refine wp_ret ?_
      replace hS := SH.optN (obj68) hS
      cases hF
      refine hQ _ _ ?_
      refine lv2 Try.results11 hA rfl rfl ?_
      exact ⟨none, rfl, hS⟩
    replace hF := iff' hb106 hF
    refine wp_skip ?_
    refine hK102 _ _ ?_
    refine wp_seq_k fun K108 hK108 => ?_
    refine wp_reg ?_
    refine x_move hA (fun ac hA => ?_) rfl rfl rfl rfl rfl
    refine x_val (v := .agg #[.slice none 0 0, .int .i64 a0, .int .i64 0, .bool false, .int .i64 0]) hA (r_build (ps := #[(1, .int .i64 a0)]) rfl (mapev2 hA rfl) (fun w => by kernel_rfl)) (fun ac hA => ?_) rfl rfl rfl
    refine x_box hA hS (fun g109 ac w hS hA => ?_) rfl rfl rfl rfl rfl rfl
    refine x_assign hA (fun ac hA => ?_) rfl rfl rfl rfl rfl
    refine x_assign hA (fun ac hA => ?_) rfl rfl rfl rfl rfl
    refine wpList_nil ?_
    refine hK108 _ _ ?_
    refine wp_ret ?_
    replace hS := own2_nil (dp := kp73) (d := (kI .u8)) (e' := 5) (g := (fun x : S73 => x.f1)) (e := 73) hS
    replace hS := hS.pk 1
    replace hS := obj68_mk (x := (⟨[], a0, 0, false, 0⟩ : S68)) hS
    replace hS := SH.optS hS
    cases hF
    refine hQ _ _ ?_
    refine lv2 Try.results11 hA rfl rfl ?_
    exact ⟨some ⟨g109, 0, none⟩, rfl, hS⟩
  refine wp_reg ?_
  refine x_move hA (fun ac hA => ?_) rfl rfl rfl rfl rfl
  refine x_val hA (r_ltI rfl (hA.ev rfl) (hA.ev rfl)) (fun ac hA => ?_) rfl rfl rfl
  refine x_move hA (fun ac hA => ?_) rfl rfl rfl rfl rfl
  refine bcase (b := decide (a0 < 1)) (fun hb110 => ?_) fun hb110 => ?_
  · replace hF := ift hb110 hF
    refine x_off hb110 hA (fun ac hA => ?_) rfl rfl rfl rfl rfl
    refine x_off hb110 hA (fun ac hA => ?_) rfl rfl rfl rfl rfl
    refine x_pickt hb110 hA (fun ac hA => ?_) rfl rfl rfl rfl rfl rfl
    refine wpList_nil ?_
    exact hj1 true hF ac w (hA.sub _ rfl) hS
  replace hF := iff' hb110 hF
  refine x_on hb110 hA ?_ rfl rfl rfl
  refine x_move hA (fun ac hA => ?_) rfl rfl rfl rfl rfl
  refine x_on hb110 hA ?_ rfl rfl rfl
  refine x_val hA (r_gtI rfl (hA.ev rfl) (hA.ev rfl)) (fun ac hA => ?_) rfl rfl rfl
  refine x_pickf hb110 hA (fun ac hA => ?_) rfl rfl rfl rfl rfl rfl
  refine wpList_nil ?_
  exact hj1 (decide (16777216 < a0)) hF ac w (hA.sub _ rfl) hS

set_option maxHeartbeats 4000000 in
theorem F_files_Store_Arm {r : World} {L : List HP} {w : World} (a0 : (Option S68)) (a1 : Int) (p0 : Option Addr) {y : (Int × (Option S68))} (hF : files_Store_Arm a0 a1 = some y) (hS : SH r (optP (obj68) p0 a0 :: L) w) :
    Ret Try.prog 22 #[.pointer p0, .int .i64 a1] w fun v w' => v = .int .i64 y.1 ∧ SH r (optP (obj68) p0 y.2 :: L) w' := by
  refine enter Try.func22 rfl Try.ntmps22 [(0, .pointer p0), (1, .int .i64 a1)] rfl (by simp) ?_
  intro ac hA Qf hQ hQn
  unfold files_Store_Arm at hF
  cases a0 with
  | none =>
    have hU := SH.unoptN hS
    clear hS
    obtain ⟨rfl, hS⟩ := hU
    refine wp_seq_k fun K103 hK103 => ?_
    refine wp_reg ?_
    refine x_assign hA (fun ac hA => ?_) rfl rfl rfl rfl rfl
    refine wpList_nil ?_
    refine hK103 _ _ ?_
    refine wp_seq_k fun K104 hK104 => ?_
    refine wp_block_k fun Kx105 hKx105 => ?_
    refine wp_seq_k fun K106 hK106 => ?_
    refine wp_reg ?_
    refine x_move hA (fun ac hA => ?_) rfl rfl rfl rfl rfl
    refine x_val (v := .bool true) hA (r_eqNilP (p := none) Try.underlying24 rfl (hA.ev rfl) (hA.ev rfl)) (fun ac hA => ?_) rfl rfl rfl
    refine x_assign hA (fun ac hA => ?_) rfl rfl rfl rfl rfl
    refine wpList_nil ?_
    refine hK106 _ _ ?_
    refine c_t (b := true) rfl hA ?_ rfl
    refine wp_seq_k fun K107 hK107 => ?_
    refine wp_reg ?_
    refine x_assign hA (fun ac hA => ?_) rfl rfl rfl rfl rfl
    refine wpList_nil ?_
    refine hK107 _ _ ?_
    refine wp_ret ?_
    replace hS := SH.optN (obj68) hS
    cases hF
    refine hQ _ _ ?_
    refine lv Try.results22 hA rfl ?_
    exact ⟨rfl, hS⟩
  | some x101 =>
    have hU := SH.unoptS hS
    clear hS
    obtain ⟨g102, rfl, hS⟩ := hU
    obtain ⟨A108, n109, c110, hS⟩ := obj68_open hS
    refine wp_seq_k fun K111 hK111 => ?_
    refine wp_reg ?_
    refine x_assign hA (fun ac hA => ?_) rfl rfl rfl rfl rfl
    refine wpList_nil ?_
    refine hK111 _ _ ?_
    refine wp_seq_k fun K112 hK112 => ?_
    refine wp_block_k fun Kx113 hKx113 => ?_
    refine wp_seq_k fun K114 hK114 => ?_
    refine wp_reg ?_
    refine x_move hA (fun ac hA => ?_) rfl rfl rfl rfl rfl
    refine x_val (v := .bool false) hA (r_eqNilP (p := some ⟨g102, 0, none⟩) Try.underlying24 rfl (hA.ev rfl) (hA.ev rfl)) (fun ac hA => ?_) rfl rfl rfl
    refine x_assign hA (fun ac hA => ?_) rfl rfl rfl rfl rfl
    refine wpList_nil ?_
    refine hK114 _ _ ?_
    refine c_f (b := false) rfl hA ?_ rfl
    refine wp_seq_k fun K115 hK115 => ?_
    refine wp_reg ?_
    refine x_move hA (fun ac hA => ?_) rfl rfl rfl rfl rfl
    refine x_val hA (r_ltI rfl (hA.ev rfl) (hA.ev rfl)) (fun ac hA => ?_) rfl rfl rfl
    refine x_assign hA (fun ac hA => ?_) rfl rfl rfl rfl rfl
    refine wpList_nil ?_
    refine hK115 _ _ ?_
    refine c_if hA rfl (fun hb116 => ?_) fun hb116 => ?_
    · replace hF := ift hb116 hF
      refine wp_seq_k fun K117 hK117 => ?_
      refine wp_reg ?_
      refine x_assign hA (fun ac hA => ?_) rfl rfl rfl rfl rfl
      refine wpList_nil ?_
      refine hK117 _ _ ?_
      refine wp_ret ?_
      replace hS := hS.pk 1
      replace hS := hS.pk 1
      replace hS := obj68_mk (x := x101) hS
      replace hS := SH.optS hS
      cases hF
      refine hQ _ _ ?_
      refine lv Try.results22 hA rfl ?_
      exact ⟨rfl, hS⟩
    replace hF := iff' hb116 hF
    refine wp_skip ?_
    refine hKx113 _ _ ?_
    refine hK112 _ _ ?_
    refine wp_seq_k fun K118 hK118 => ?_
    refine wp_reg ?_
    refine x_move hA (fun ac hA => ?_) rfl rfl rfl rfl rfl
    refine x_move hA (fun ac hA => ?_) rfl rfl rfl rfl rfl
    refine x_val hA (r_nilCheck rfl (hA.ev rfl)) (fun ac hA => ?_) rfl rfl rfl
    refine x_fab fa68_2 hA (fun ac hA => ?_) rfl rfl rfl rfl rfl
    refine x_stb 0 sz3 hA hS rfl (fun  ac w hS hA => ?_) rfl rfl rfl rfl rfl rfl rfl rfl
    refine wpList_nil ?_
    refine hK118 _ _ ?_
    refine wp_seq_k fun K119 hK119 => ?_
    refine wp_reg ?_
    refine x_assign hA (fun ac hA => ?_) rfl rfl rfl rfl rfl
    refine wpList_nil ?_
    refine hK119 _ _ ?_
    refine wp_ret ?_
    replace hS := hS.pk 1
    replace hS := hS.pk 1
    replace hS := obj68_mk (x := (⟨x101.f0, x101.f1, a1, x101.f3, x101.f4⟩ : S68)) hS
    replace hS := SH.optS hS
    cases hF
    refine hQ _ _ ?_
    refine lv Try.results22 hA rfl ?_
    exact ⟨rfl, hS⟩

set_option maxHeartbeats 4000000 in
theorem F_files_Store_Append {r : World} {L : List HP} {w : World} (a0 : (Option S68)) (a1 : (List UInt8)) (a2 : (List Int)) (p0 : Option Addr) (A2 : Option Addr) (n2 : Nat) (c2 : Nat) {y : (Int × (Option S68))} (hF : files_Store_Append a0 a1 a2 = some y) (ha2 : RdL L (kI .u8) A2 n2 c2 a2) (hS : SH r (optP (obj68) p0 a0 :: L) w) :
    Ret Try.prog 12 #[.pointer p0, str a1, .slice A2 n2 c2] w fun v w' => v = .int .i64 y.1 ∧ SH r (optP (obj68) p0 y.2 :: L) w' := by
  refine enter Try.func12 rfl Try.ntmps12 [(0, .pointer p0), (1, str a1), (2, .slice A2 n2 c2)] rfl (by simp) ?_
  intro ac hA Qf hQ hQn
  unfold files_Store_Append at hF
  cases a0 with
  | none =>
    have hU := SH.unoptN hS
    clear hS
    obtain ⟨rfl, hS⟩ := hU
    refine wp_seq_k fun K103 hK103 => ?_
    refine wp_reg ?_
    refine x_assign hA (fun ac hA => ?_) rfl rfl rfl rfl rfl
    refine wpList_nil ?_
    refine hK103 _ _ ?_
    refine wp_seq_k fun K104 hK104 => ?_
    refine wp_seq_k fun K105 hK105 => ?_
    refine wp_reg ?_
    refine x_move hA (fun ac hA => ?_) rfl rfl rfl rfl rfl
    refine x_move hA (fun ac hA => ?_) rfl rfl rfl rfl rfl
    replace hS := SH.optN (obj68) hS
    obtain ⟨y106, h107, hF⟩ := bnd hF
    refine x_call en35 hA (F_files_Store_look (L := L) none a1 none h107 hS) (fun v ac w hR hA => ?_) rfl rfl rfl rfl rfl
    obtain ⟨rfl, hS⟩ := hR
    refine x_assign hA (fun ac hA => ?_) rfl rfl rfl rfl rfl
    refine wpList_nil ?_
    refine hK105 _ _ ?_
    refine wp_seq_k fun K108 hK108 => ?_
    refine wp_reg ?_
    refine x_move hA (fun ac hA => ?_) rfl rfl rfl rfl rfl
    refine x_val hA (r_neI rfl (hA.ev rfl) (hA.ev rfl)) (fun ac hA => ?_) rfl rfl rfl
    refine wpList_nil ?_
    refine hK108 _ _ ?_
    refine c_if hA rfl (fun hb109 => ?_) fun hb109 => ?_
    · replace hF := ift hb109 hF
      refine wp_seq_k fun K110 hK110 => ?_
      refine wp_reg ?_
      refine x_move hA (fun ac hA => ?_) rfl rfl rfl rfl rfl
      refine x_assign hA (fun ac hA => ?_) rfl rfl rfl rfl rfl
      refine wpList_nil ?_
      refine hK110 _ _ ?_
      refine wp_ret ?_
      replace hS := SH.optN (obj68) hS
      replace hS := hS.drop 1
      cases hF
      refine hQ _ _ ?_
      refine lv Try.results12 hA rfl ?_
      exact ⟨rfl, hS⟩
    replace hF := iff' hb109 hF
    refine wp_skip ?_
    refine hK104 _ _ ?_
    refine wp_seq_k fun K111 hK111 => ?_
    refine wp_reg ?_
    refine x_move hA (fun ac hA => ?_) rfl rfl rfl rfl rfl
    refine x_move hA (fun ac hA => ?_) rfl rfl rfl rfl rfl
    cases hF
  | some x101 =>
    have hU := SH.unoptS hS
    clear hS
    obtain ⟨g102, rfl, hS⟩ := hU
    obtain ⟨A112, n113, c114, hS⟩ := obj68_open hS
    refine wp_seq_k fun K115 hK115 => ?_
    refine wp_reg ?_
    refine x_assign hA (fun ac hA => ?_) rfl rfl rfl rfl rfl
    refine wpList_nil ?_
    refine hK115 _ _ ?_
    refine wp_seq_k fun K116 hK116 => ?_
    refine wp_seq_k fun K117 hK117 => ?_
    refine wp_reg ?_
    refine x_move hA (fun ac hA => ?_) rfl rfl rfl rfl rfl
    refine x_move hA (fun ac hA => ?_) rfl rfl rfl rfl rfl
    replace hS := hS.pk 1
    replace hS := hS.pk 1
    replace hS := obj68_mk (x := x101) hS
    replace hS := SH.optS hS
    obtain ⟨y118, h119, hF⟩ := bnd hF
    refine x_call en35 hA (F_files_Store_look (L := L) (some x101) a1 (some ⟨g102, 0, none⟩) h119 hS) (fun v ac w hR hA => ?_) rfl rfl rfl rfl rfl
    obtain ⟨rfl, hS⟩ := hR
    replace hS := SH.unoptP hS
    obtain ⟨A122, n123, c124, hS⟩ := obj68_open hS
    refine x_assign hA (fun ac hA => ?_) rfl rfl rfl rfl rfl
    refine wpList_nil ?_
    refine hK117 _ _ ?_
    refine wp_seq_k fun K125 hK125 => ?_
    refine wp_reg ?_
    refine x_move hA (fun ac hA => ?_) rfl rfl rfl rfl rfl
    refine x_val hA (r_neI rfl (hA.ev rfl) (hA.ev rfl)) (fun ac hA => ?_) rfl rfl rfl
    refine wpList_nil ?_
    refine hK125 _ _ ?_
    refine c_if hA rfl (fun hb126 => ?_) fun hb126 => ?_
    · replace hF := ift hb126 hF
      refine wp_seq_k fun K127 hK127 => ?_
      refine wp_reg ?_
      refine x_move hA (fun ac hA => ?_) rfl rfl rfl rfl rfl
      refine x_assign hA (fun ac hA => ?_) rfl rfl rfl rfl rfl
      refine wpList_nil ?_
      refine hK127 _ _ ?_
      refine wp_ret ?_
      replace hS := hS.pk 1
      replace hS := hS.pk 1
      replace hS := obj68_mk (x := x101) hS
      replace hS := SH.optS hS
      cases hF
      refine hQ _ _ ?_
      refine lv Try.results12 hA rfl ?_
      exact ⟨rfl, hS⟩
    replace hF := iff' hb126 hF
    refine wp_skip ?_
    refine hK116 _ _ ?_
    refine wp_seq_k fun K128 hK128 => ?_
    refine wp_reg ?_
    refine x_move hA (fun ac hA => ?_) rfl rfl rfl rfl rfl
    refine x_move hA (fun ac hA => ?_) rfl rfl rfl rfl rfl
    replace hS := hS.pk 1
    replace hS := hS.pk 1
    obtain ⟨y129, h130, hF⟩ := bnd hF
    refine x_call en36 hA (F_files_Store_find (L := L) x101 a1 g102 A122 n123 c124 h130 hS) (fun v ac w hR hA => ?_) rfl rfl rfl rfl rfl
    obtain ⟨rfl, hS⟩ := hR
    refine x_move hA (fun ac hA => ?_) rfl rfl rfl rfl rfl
    refine x_val hA (r_extract rfl (hA.ev rfl) rfl) (fun ac hA => ?_) rfl rfl rfl
    refine x_val hA (r_extract rfl (hA.ev rfl) rfl) (fun ac hA => ?_) rfl rfl rfl
    refine x_assign hA (fun ac hA => ?_) rfl rfl rfl rfl rfl
    refine x_assign hA (fun ac hA => ?_) rfl rfl rfl rfl rfl
    refine wpList_nil ?_
    refine hK128 _ _ ?_
    refine wp_seq_k fun K131 hK131 => ?_
    refine wp_seq_k fun K132 hK132 => ?_
    have hj1 : ∀ (b147 : Bool), files_Store_Append_j1 a1 a2 x101 y129 b147 = some y → ∀ (A144 : Option Addr) (n145 : Nat) (c146 : Nat) (ac : Act) (w : World), FR 80 [] ac [(0, .pointer (some ⟨g102, 0, none⟩)), (1, str a1), (2, .slice A2 n2 c2), (8, .int .i64 y129.1), (9, .bool y129.2), (44, .bool b147)] → SH r (blk g102 68 [.slice A144 n145 c146, .int .i64 x101.f1, .int .i64 x101.f2, .bool x101.f3, .int .i64 x101.f4] :: own2 kp73 (kI .u8) 5 (fun x : S73 => x.f1) 73 A144 n145 c146 x101.f0 :: L) w → K132 ac w := by
      intro b147 hF A144 n145 c146 ac w hA hS
      unfold files_Store_Append_j1 at hF
      refine hK132 _ _ ?_
      refine c_if hA rfl (fun hb148 => ?_) fun hb148 => ?_
      · replace hF := ift hb148 hF
        refine wp_seq_k fun K149 hK149 => ?_
        refine wp_reg ?_
        refine x_assign hA (fun ac hA => ?_) rfl rfl rfl rfl rfl
        refine wpList_nil ?_
        refine hK149 _ _ ?_
        refine wp_ret ?_
        replace hS := hS.pk 1
        replace hS := hS.pk 1
        replace hS := obj68_mk (x := x101) hS
        replace hS := SH.optS hS
        cases hF
        refine hQ _ _ ?_
        refine lv Try.results12 hA rfl ?_
        exact ⟨rfl, hS⟩
      replace hF := iff' hb148 hF
      refine wp_skip ?_
      refine hK131 _ _ ?_
      refine wp_seq_k fun K150 hK150 => ?_
      refine wp_reg ?_
      refine x_move hA (fun ac hA => ?_) rfl rfl rfl rfl rfl
      replace hS := hS.pk 1
      replace hS := hS.pk 1
      replace hS := obj68_mk (x := x101) hS
      obtain ⟨y151, h152, hF⟩ := bnd hF
      refine x_call en37 hA (F_files_Store_begin (L := L) x101 g102 h152 hS) (fun v ac w hR hA => ?_) rfl rfl rfl rfl rfl
      obtain ⟨rfl, hS⟩ := hR
      obtain ⟨A153, n154, c155, hS⟩ := obj68_open hS
      refine x_assign hA (fun ac hA => ?_) rfl rfl rfl rfl rfl
      refine wpList_nil ?_
      refine hK150 _ _ ?_
      refine wp_seq_k fun K156 hK156 => ?_
      have hj2 : ∀ (l165 : (List S73)), files_Store_Append_j2 a2 y129 y151 l165 = some y → ∀ (A166 : Option Addr) (n167 : Nat) (c168 : Nat) (ac : Act) (w : World), FR 80 [] ac [(0, .pointer (some ⟨g102, 0, none⟩)), (2, .slice A2 n2 c2), (8, .int .i64 y129.1), (10, .bool y151.1)] → SH r (blk g102 68 [.slice A166 n167 c168, .int .i64 y151.2.f1, .int .i64 y151.2.f2, .bool y151.2.f3, .int .i64 y151.2.f4] :: own2 kp73 (kI .u8) 5 (fun x : S73 => x.f1) 73 A166 n167 c168 l165 :: L) w → K156 ac w := by
        intro l165 hF A166 n167 c168 ac w hA hS
        unfold files_Store_Append_j2 at hF
        refine hK156 _ _ ?_
        refine wp_seq_k fun K169 hK169 => ?_
        refine wp_draw [0, 1, 3, 7, 0, 0, 32, 96, 224, 0, 992, 2016, 4064, 0, 16352, 32767, 65535, 131071] [14, 17] rfl hA hS (by kernel_rfl) (by kernel_rfl) (by kernel_rfl) (by kernel_rfl) fun w hS => ?_
        obtain ⟨x170, h171, hF⟩ := bnd hF
        have hS_172 := hS
        replace hS := hS.pk 1
        obtain ⟨ps173, A174, n175, c176, h177, h178, hS⟩ := own2_out hS h171
        obtain ⟨cs, hV, hc179⟩ := el (hS.rd 0 rfl) h178
        obtain rfl := hV
        refine ⟨[(0, .pointer (some ⟨g102, 0, none⟩)), (1, .pointer (some ⟨g102, 0, none⟩)), (2, .pointer (some ⟨g102, 0, none⟩)), (3, .slice A166 n167 c168), (4, .int .i64 y129.1), (5, .pointer (some ⟨g102, 0, none⟩)), (6, .pointer (some ⟨g102, 0, none⟩)), (7, .pointer (some ⟨g102, 0, none⟩)), (8, .slice A166 n167 c168), (9, .int .i64 y129.1), (10, .pointer (some (ea A166 (y129.1.toNat * 3)))), (11, .pointer (some (ea A166 (y129.1.toNat * 3 + 1)))), (12, .slice A174 n175 c176), (13, .slice A2 n2 c2)], ?_⟩
        refine dEff [0, 1, 2, 3, 4, 5, 6, 7, 8, 9, 10, 11, 12, 13] [14] (by kernel_rfl) ⟨pu rfl rfl [(0, .pointer (some ⟨g102, 0, none⟩))] (fun ac hA => y_move hA rfl rfl) rfl rfl, pu rfl rfl [(61, .pointer (some ⟨g102, 0, none⟩))] (fun ac hA => r_nilCheck rfl (hA.ev rfl)) rfl rfl, pu rfl rfl [(62, .pointer (some ⟨g102, 0, none⟩))] (fun ac hA => y_fab fa68_0 hA rfl rfl) rfl rfl, pu rfl rfl [(63, .pointer (some ⟨g102, 0, none⟩))] (fun ac hA => y_ld Try.underlying66 (hS_172.cell 0 rfl 0 _ rfl) hA rfl rfl rfl) rfl rfl, pu rfl rfl [(8, .int .i64 y129.1)] (fun ac hA => y_move hA rfl rfl) rfl rfl, pu rfl rfl [(0, .pointer (some ⟨g102, 0, none⟩))] (fun ac hA => y_move hA rfl rfl) rfl rfl, pu rfl rfl [(66, .pointer (some ⟨g102, 0, none⟩))] (fun ac hA => r_nilCheck rfl (hA.ev rfl)) rfl rfl, pu rfl rfl [(67, .pointer (some ⟨g102, 0, none⟩))] (fun ac hA => y_fab fa68_0 hA rfl rfl) rfl rfl, pu rfl rfl [(68, .pointer (some ⟨g102, 0, none⟩))] (fun ac hA => y_ld Try.underlying66 (hS_172.cell 0 rfl 0 _ rfl) hA rfl rfl rfl) rfl rfl, pu rfl rfl [(8, .int .i64 y129.1)] (fun ac hA => y_move hA rfl rfl) rfl rfl, pu rfl rfl [(69, .slice A166 n167 c168), (70, .int .i64 y129.1)] (fun ac hA => y_ia Try.underlying66 sz73 (hS_172.rd2L 1 rfl) h171 hA rfl rfl rfl) rfl rfl, pu rfl rfl [(71, .pointer (some (ea A166 (y129.1.toNat * 3))))] (fun ac hA => y_fae (m := y129.1.toNat * 3) fa73_1 hA rfl rfl) rfl rfl, pu rfl rfl [(72, .pointer (some (ea A166 (y129.1.toNat * 3 + 1))))] (fun ac hA => y_ld Try.underlying22 (hc179 1 _ rfl) hA rfl rfl rfl) rfl rfl, pu rfl rfl [(2, .slice A2 n2 c2)] (fun ac hA => y_move hA rfl rfl) rfl rfl, trivial⟩ (by kernel_rfl) (by kernel_rfl) ⟨ef rfl [(73, .slice A174 n175 c176), (74, .slice A2 n2 c2)] (fun ac hA K hK => ?_) rfl rfl, trivial⟩
        obtain ⟨h180, hF⟩ := chk_some hF
        have hr := hS.rdl 4 ha2 rfl
        refine z_app 1 inf5 Try.underlying22 hA hS hr.1 hr.2.1 h180 rfl (fun A181 n182 c183 w hS => ?_) rfl rfl rfl rfl rfl rfl
        refine hK _ [(15, .pointer (some (ea A166 (y129.1.toNat * 3)))), (16, .pointer (some (ea A166 (y129.1.toNat * 3 + 1))))] _ rfl ?_
        refine dEff [0, 1, 2, 3, 4, 15, 16] [17] (by kernel_rfl) ⟨pu rfl rfl [(0, .pointer (some ⟨g102, 0, none⟩))] (fun ac hA => y_move hA rfl rfl) rfl rfl, pu rfl rfl [(61, .pointer (some ⟨g102, 0, none⟩))] (fun ac hA => r_nilCheck rfl (hA.ev rfl)) rfl rfl, pu rfl rfl [(62, .pointer (some ⟨g102, 0, none⟩))] (fun ac hA => y_fab fa68_0 hA rfl rfl) rfl rfl, pu rfl rfl [(63, .pointer (some ⟨g102, 0, none⟩))] (fun ac hA => y_ld Try.underlying66 (hS.cell 3 rfl 0 _ rfl) hA rfl rfl rfl) rfl rfl, pu rfl rfl [(8, .int .i64 y129.1)] (fun ac hA => y_move hA rfl rfl) rfl rfl, pu rfl rfl [(64, .slice A166 n167 c168), (65, .int .i64 y129.1)] (fun ac hA => y_ia Try.underlying66 sz73 (hS.rdp 1 rfl h177) h171 hA rfl rfl rfl) rfl rfl, pu rfl rfl [(76, .pointer (some (ea A166 (y129.1.toNat * 3))))] (fun ac hA => y_fae (m := y129.1.toNat * 3) fa73_1 hA rfl rfl) rfl rfl, trivial⟩ (by kernel_rfl) (by kernel_rfl) ⟨ef rfl [(75, .slice A181 n182 c183), (77, .pointer (some (ea A166 (y129.1.toNat * 3 + 1))))] (fun ac hA K hK => ?_) rfl rfl, trivial⟩
        refine z_sto (z' := ((⟨x170.f0, x170.f1 ++ a2, x170.f2⟩ : S73), A181, n182, c183)) (off := 1) (vs := [.slice A181 n182 c183]) 1 sz22 hA hS rfl (at_some h178).2.2 (fun c h => by cases h; rfl) (fun  w hS => ?_) rfl rfl rfl rfl rfl rfl
        replace hS := hS.pk 2
        replace hS := hS.pk 2
        replace hS := hS.pk 2
        replace hS := own2_in (g := (fun x : S73 => x.f1)) (x' := (⟨x170.f0, x170.f1 ++ a2, x170.f2⟩ : S73)) h177 h178 hS
        refine hK _ [] _ rfl ?_
        refine dEnd [] (by kernel_rfl) trivial ⟨by kernel_rfl, by kernel_rfl⟩ [(0, .pointer (some ⟨g102, 0, none⟩)), (10, .bool y151.1)] rfl (fun ac hA => ?_)
        refine hK169 _ _ ?_
        refine wp_seq_k fun K184 hK184 => ?_
        refine wp_seq_k fun K185 hK185 => ?_
        refine wp_reg ?_
        refine x_move hA (fun ac hA => ?_) rfl rfl rfl rfl rfl
        refine x_val hA (r_not rfl (hA.ev rfl)) (fun ac hA => ?_) rfl rfl rfl
        refine wpList_nil ?_
        refine hK185 _ _ ?_
        refine c_if hA rfl (fun hb186 => ?_) fun hb186 => ?_
        · replace hF := ift hb186 hF
          refine wp_seq_k fun K187 hK187 => ?_
          refine wp_reg ?_
          refine x_assign hA (fun ac hA => ?_) rfl rfl rfl rfl rfl
          refine wpList_nil ?_
          refine hK187 _ _ ?_
          refine wp_ret ?_
          replace hS := hS.pk 1
          replace hS := obj68_mk (x := (⟨l165.set y129.1.toNat (⟨x170.f0, x170.f1 ++ a2, x170.f2⟩ : S73), y151.2.f1, y151.2.f2, y151.2.f3, y151.2.f4⟩ : S68)) hS
          replace hS := SH.optS hS
          cases hF
          refine hQ _ _ ?_
          refine lv Try.results12 hA rfl ?_
          exact ⟨rfl, hS⟩
        replace hF := iff' hb186 hF
        refine wp_skip ?_
        refine hK184 _ _ ?_
        refine wp_seq_k fun K188 hK188 => ?_
        refine wp_reg ?_
        refine x_assign hA (fun ac hA => ?_) rfl rfl rfl rfl rfl
        refine wpList_nil ?_
        refine hK188 _ _ ?_
        refine wp_ret ?_
        replace hS := hS.pk 1
        replace hS := obj68_mk (x := (⟨l165.set y129.1.toNat (⟨x170.f0, x170.f1 ++ a2, x170.f2⟩ : S73), y151.2.f1, y151.2.f2, y151.2.f3, y151.2.f4⟩ : S68)) hS
        replace hS := SH.optS hS
        cases hF
        refine hQ _ _ ?_
        refine lv Try.results12 hA rfl ?_
        exact ⟨rfl, hS⟩
      refine wp_seq_k fun K189 hK189 => ?_
      refine wp_reg ?_
      refine x_move hA (fun ac hA => ?_) rfl rfl rfl rfl rfl
      refine x_val hA (r_not rfl (hA.ev rfl)) (fun ac hA => ?_) rfl rfl rfl
      refine wpList_nil ?_
      refine hK189 _ _ ?_
      refine c_if hA rfl (fun hb190 => ?_) fun hb190 => ?_
      · replace hF := ift hb190 hF
        refine wp_reg ?_
        refine x_move hA (fun ac hA => ?_) rfl rfl rfl rfl rfl
        refine x_move hA (fun ac hA => ?_) rfl rfl rfl rfl rfl
        refine x_val hA (r_nilCheck rfl (hA.ev rfl)) (fun ac hA => ?_) rfl rfl rfl
        refine x_fab fa68_0 hA (fun ac hA => ?_) rfl rfl rfl rfl rfl
        refine x_ld Try.underlying66 (hS.cell 0 rfl 0 _ rfl) hA (fun ac hA => ?_) rfl rfl rfl rfl rfl rfl
        refine x_move hA (fun ac hA => ?_) rfl rfl rfl rfl rfl
        refine x_move hA (fun ac hA => ?_) rfl rfl rfl rfl rfl
        refine x_val (v := .agg #[str a1, .slice none 0 0, .int .i64 0]) hA (r_build (ps := #[(0, str a1)]) rfl (mapev2 hA rfl) (fun w => by kernel_rfl)) (fun ac hA => ?_) rfl rfl rfl
        replace hS := SH.nil_own (d := (kI .u8)) (e := 5) hS
        refine x_bsl (d := kp73) (e := 73) (ps := #[(0, .agg #[str a1, .slice none 0 0, .int .i64 0])]) (cells := [str a1, .slice none 0 0, .int .i64 0]) (xs := [((⟨a1, [], 0⟩ : S73), none, 0, 0)]) (fun w => by kernel_rfl) rfl ⟨[str a1, .slice none 0 0, .int .i64 0], _, rfl, rfl, rfl⟩ hA hS (fun g191 ac w hS hA => ?_) rfl rfl rfl rfl rfl rfl
        replace hS := own2_one (g := (fun x : S73 => x.f1)) (x := (⟨a1, [], 0⟩ : S73)) hS
        replace hS := hS.pk 2
        obtain ⟨y192, h193, hF⟩ := bnd hF
        refine x_call en38 hA (F_ins (L := blk g102 68 [.slice A153 n154 c155, .int .i64 y151.2.f1, .int .i64 y151.2.f2, .bool y151.2.f3, .int .i64 y151.2.f4] :: L) y151.2.f0 y129.1 [(⟨a1, [], 0⟩ : S73)] h193 hS) (fun v ac w hR hA => ?_) rfl rfl rfl rfl rfl
        obtain ⟨A194, n195, c196, rfl, hS⟩ := hR
        refine x_val hA (r_nilCheck rfl (hA.ev rfl)) (fun ac hA => ?_) rfl rfl rfl
        refine x_fab fa68_0 hA (fun ac hA => ?_) rfl rfl rfl rfl rfl
        refine x_stb 1 sz66 hA hS rfl (fun  ac w hS hA => ?_) rfl rfl rfl rfl rfl rfl rfl rfl
        refine wpList_nil ?_
        exact hj2 y192 hF A194 n195 c196 ac w (hA.sub _ rfl) hS
      replace hF := iff' hb190 hF
      refine wp_skip ?_
      exact hj2 y151.2.f0 hF A153 n154 c155 ac w (hA.sub _ rfl) hS
    refine wp_draw [0, 1, 0, 4, 12, 28, 0, 64, 252, 511, 1023, 2047, 4095, 8191, 16383, 32767, 65535, 131071, 262143, 524287, 1048575, 2097151] [7] rfl hA hS (by kernel_rfl) (by kernel_rfl) (by kernel_rfl) (by kernel_rfl) fun w hS => ?_
    refine ⟨[(0, .slice A2 n2 c2), (1, .int .i64 (a2.length : Int)), (2, .pointer (some ⟨g102, 0, none⟩)), (3, .pointer (some ⟨g102, 0, none⟩)), (4, .pointer (some ⟨g102, 1, none⟩)), (5, .int .i64 x101.f1), (6, .pointer (some ⟨g102, 0, none⟩))], ?_⟩
    refine dEff [0, 1, 2, 3, 4, 5, 6] [7] (by kernel_rfl) ⟨pu rfl rfl [(2, .slice A2 n2 c2)] (fun ac hA => y_move hA rfl rfl) rfl rfl, pu rfl rfl [(23, .slice A2 n2 c2)] (fun ac hA => y_len Try.underlying22 (hS.rdl 2 ha2 rfl).2.1 hA rfl rfl) rfl rfl, pu rfl rfl [(0, .pointer (some ⟨g102, 0, none⟩))] (fun ac hA => y_move hA rfl rfl) rfl rfl, pu rfl rfl [(25, .pointer (some ⟨g102, 0, none⟩))] (fun ac hA => r_nilCheck rfl (hA.ev rfl)) rfl rfl, pu rfl rfl [(26, .pointer (some ⟨g102, 0, none⟩))] (fun ac hA => y_fab fa68_1 hA rfl rfl) rfl rfl, pu rfl rfl [(27, .pointer (some ⟨g102, 1, none⟩))] (fun ac hA => y_ld Try.underlying3 (hS.cell 0 rfl 1 _ rfl) hA rfl rfl rfl) rfl rfl, pu rfl rfl [(0, .pointer (some ⟨g102, 0, none⟩))] (fun ac hA => y_move hA rfl rfl) rfl rfl, trivial⟩ (by kernel_rfl) (by kernel_rfl) ⟨ef rfl [(29, .pointer (some ⟨g102, 0, none⟩))] (fun ac hA K hK => ?_) rfl rfl, trivial⟩
    replace hS := hS.pk 1
    replace hS := hS.pk 1
    replace hS := obj68_mk (x := x101) hS
    replace hS := SH.optS hS
    obtain ⟨y197, h198, hF⟩ := bnd hF
    refine z_call en16 hA (F_files_Store_Used (L := L) (some x101) (some ⟨g102, 0, none⟩) h198 hS) (fun v w hR => ?_) rfl rfl
    obtain ⟨rfl, hS⟩ := hR
    replace hS := SH.unoptP hS
    obtain ⟨A201, n202, c203, hS⟩ := obj68_open hS
    obtain ⟨x204, h205, hF⟩ := ltt_ hF
    refine bcase (b := decide (x204 < (a2.length : Int))) (fun hb206 => ?_) fun hb206 => ?_
    · replace hF := ift hb206 hF
      refine hK _ [(8, .int .i64 x204), (9, .bool (decide (x204 < (a2.length : Int)))), (10, .bool (decide (x204 < (a2.length : Int)))), (11, undef), (12, undef), (13, undef), (14, undef), (15, undef), (16, undef), (17, undef), (18, undef), (19, undef), (20, undef), (21, .bool true)] _ rfl ?_
      refine dEnd [0, 1, 2, 3, 4, 5, 8, 9, 10, 11, 12, 13, 14, 15, 16, 17, 18, 19, 20, 21] (by kernel_rfl) ⟨pu rfl rfl [(2, .slice A2 n2 c2)] (fun ac hA => y_move hA rfl rfl) rfl rfl, pu rfl rfl [(23, .slice A2 n2 c2)] (fun ac hA => y_len Try.underlying22 (hS.rdl 2 ha2 rfl).2.1 hA rfl rfl) rfl rfl, pu rfl rfl [(0, .pointer (some ⟨g102, 0, none⟩))] (fun ac hA => y_move hA rfl rfl) rfl rfl, pu rfl rfl [(25, .pointer (some ⟨g102, 0, none⟩))] (fun ac hA => r_nilCheck rfl (hA.ev rfl)) rfl rfl, pu rfl rfl [(26, .pointer (some ⟨g102, 0, none⟩))] (fun ac hA => y_fab fa68_1 hA rfl rfl) rfl rfl, pu rfl rfl [(27, .pointer (some ⟨g102, 1, none⟩))] (fun ac hA => y_ld Try.underlying3 (hS.cell 0 rfl 1 _ rfl) hA rfl rfl rfl) rfl rfl, pu rfl rfl [(28, .int .i64 x101.f1), (30, .int .i64 y197)] (fun ac hA => (rv_i h205 (r_sub rfl (hA.ev rfl) (hA.ev rfl)) : RunV _ _ _ _ (.int .i64 x204))) rfl rfl, pu rfl rfl [(24, .int .i64 (a2.length : Int)), (31, .int .i64 x204)] (fun ac hA => r_gtI rfl (hA.ev rfl) (hA.ev rfl)) rfl rfl, pu rfl rfl [(32, .bool (decide (x204 < (a2.length : Int))))] (fun ac hA => y_move hA rfl rfl) rfl rfl, puOff rfl rfl rfl rfl [(9, .bool y129.2), (33, .bool (decide (x204 < (a2.length : Int))))] rfl hb206 rfl, puOff rfl rfl rfl rfl [(33, .bool (decide (x204 < (a2.length : Int)))), (34, undef)] rfl hb206 rfl, puOff rfl rfl rfl rfl [(33, .bool (decide (x204 < (a2.length : Int)))), (35, undef)] rfl hb206 rfl, puOffU rfl rfl rfl rfl [(0, .pointer (some ⟨g102, 0, none⟩)), (36, undef)] rfl rfl, puOffU rfl rfl rfl rfl [(36, undef), (37, undef)] rfl rfl, puOffU rfl rfl rfl rfl [(36, undef), (38, undef)] rfl rfl, puOffU rfl rfl rfl rfl [(36, undef), (39, undef)] rfl rfl, puOffU rfl rfl rfl rfl [(36, undef), (40, undef)] rfl rfl, puOffU rfl rfl rfl rfl [(36, undef), (41, undef)] rfl rfl, puOff rfl rfl rfl rfl [(33, .bool (decide (x204 < (a2.length : Int)))), (36, undef), (42, undef)] rfl hb206 rfl, pu rfl rfl [(33, .bool (decide (x204 < (a2.length : Int)))), (43, undef)] (fun ac hA => y_pickt hb206 hA rfl rfl rfl) rfl rfl, trivial⟩ ⟨by kernel_rfl, by kernel_rfl⟩ [(0, .pointer (some ⟨g102, 0, none⟩)), (1, str a1), (2, .slice A2 n2 c2), (8, .int .i64 y129.1), (9, .bool y129.2), (44, .bool true)] rfl (fun ac hA => ?_)
      exact hj1 true hF A201 n202 c203 ac w (hA.sub _ rfl) hS
    replace hF := iff' hb206 hF
    refine bcase (b := !y129.2) (fun hb207 => ?_) fun hb207 => ?_
    · replace hF := ift hb207 hF
      refine hK _ [(8, .int .i64 x204), (9, .bool (decide (x204 < (a2.length : Int)))), (10, .bool (decide (x204 < (a2.length : Int)))), (11, .bool y129.2), (12, .bool (!y129.2)), (13, .bool (!y129.2)), (14, .pointer (some ⟨g102, 0, none⟩)), (15, .pointer (some ⟨g102, 0, none⟩)), (16, .pointer (some ⟨g102, 0, none⟩)), (17, .slice A201 n202 c203), (18, .int .i64 (x101.f0.length : Int)), (19, .bool (decide (500 ≤ (x101.f0.length : Int)))), (20, .bool (decide (500 ≤ (x101.f0.length : Int)))), (21, .bool (decide (500 ≤ (x101.f0.length : Int))))] _ rfl ?_
      refine dEnd [0, 1, 2, 3, 4, 5, 8, 9, 10, 11, 12, 13, 14, 15, 16, 17, 18, 19, 20, 21] (by kernel_rfl) ⟨pu rfl rfl [(2, .slice A2 n2 c2)] (fun ac hA => y_move hA rfl rfl) rfl rfl, pu rfl rfl [(23, .slice A2 n2 c2)] (fun ac hA => y_len Try.underlying22 (hS.rdl 2 ha2 rfl).2.1 hA rfl rfl) rfl rfl, pu rfl rfl [(0, .pointer (some ⟨g102, 0, none⟩))] (fun ac hA => y_move hA rfl rfl) rfl rfl, pu rfl rfl [(25, .pointer (some ⟨g102, 0, none⟩))] (fun ac hA => r_nilCheck rfl (hA.ev rfl)) rfl rfl, pu rfl rfl [(26, .pointer (some ⟨g102, 0, none⟩))] (fun ac hA => y_fab fa68_1 hA rfl rfl) rfl rfl, pu rfl rfl [(27, .pointer (some ⟨g102, 1, none⟩))] (fun ac hA => y_ld Try.underlying3 (hS.cell 0 rfl 1 _ rfl) hA rfl rfl rfl) rfl rfl, pu rfl rfl [(28, .int .i64 x101.f1), (30, .int .i64 y197)] (fun ac hA => (rv_i h205 (r_sub rfl (hA.ev rfl) (hA.ev rfl)) : RunV _ _ _ _ (.int .i64 x204))) rfl rfl, pu rfl rfl [(24, .int .i64 (a2.length : Int)), (31, .int .i64 x204)] (fun ac hA => r_gtI rfl (hA.ev rfl) (hA.ev rfl)) rfl rfl, pu rfl rfl [(32, .bool (decide (x204 < (a2.length : Int))))] (fun ac hA => y_move hA rfl rfl) rfl rfl, puOn rfl rfl rfl rfl [(9, .bool y129.2), (33, .bool (decide (x204 < (a2.length : Int))))] rfl hb206 (fun ac hA => y_move hA rfl rfl) rfl, puOn rfl rfl rfl rfl [(33, .bool (decide (x204 < (a2.length : Int)))), (34, .bool y129.2)] rfl hb206 (fun ac hA => r_not rfl (hA.ev rfl)) rfl, puOn rfl rfl rfl rfl [(33, .bool (decide (x204 < (a2.length : Int)))), (35, .bool (!y129.2))] rfl hb206 (fun ac hA => y_move hA rfl rfl) rfl, puOn rfl rfl rfl rfl [(0, .pointer (some ⟨g102, 0, none⟩)), (36, .bool (!y129.2))] rfl hb207 (fun ac hA => y_move hA rfl rfl) rfl, puOn rfl rfl rfl rfl [(36, .bool (!y129.2)), (37, .pointer (some ⟨g102, 0, none⟩))] rfl hb207 (fun ac hA => r_nilCheck rfl (hA.ev rfl)) rfl, puOn rfl rfl rfl rfl [(36, .bool (!y129.2)), (38, .pointer (some ⟨g102, 0, none⟩))] rfl hb207 (fun ac hA => y_fab fa68_0 hA rfl rfl) rfl, puOn rfl rfl rfl rfl [(36, .bool (!y129.2)), (39, .pointer (some ⟨g102, 0, none⟩))] rfl hb207 (fun ac hA => y_ld Try.underlying66 (hS.cell 0 rfl 0 _ rfl) hA rfl rfl rfl) rfl, puOn rfl rfl rfl rfl [(36, .bool (!y129.2)), (40, .slice A201 n202 c203)] rfl hb207 (fun ac hA => y_len Try.underlying66 (hS.rd2L 1 rfl).2.1 hA rfl rfl) rfl, puOn rfl rfl rfl rfl [(36, .bool (!y129.2)), (41, .int .i64 (x101.f0.length : Int))] rfl hb207 (fun ac hA => r_geI rfl (hA.ev rfl) (hA.ev rfl)) rfl, puOn rfl rfl rfl rfl [(33, .bool (decide (x204 < (a2.length : Int)))), (36, .bool (!y129.2)), (42, .bool (decide (500 ≤ (x101.f0.length : Int))))] rfl hb206 (fun ac hA => y_pickt hb207 hA rfl rfl rfl) rfl, pu rfl rfl [(33, .bool (decide (x204 < (a2.length : Int)))), (43, .bool (decide (500 ≤ (x101.f0.length : Int))))] (fun ac hA => y_pickf hb206 hA rfl rfl rfl) rfl rfl, trivial⟩ ⟨by kernel_rfl, by kernel_rfl⟩ [(0, .pointer (some ⟨g102, 0, none⟩)), (1, str a1), (2, .slice A2 n2 c2), (8, .int .i64 y129.1), (9, .bool y129.2), (44, .bool (decide (500 ≤ (x101.f0.length : Int))))] rfl (fun ac hA => ?_)
      exact hj1 (decide (500 ≤ (x101.f0.length : Int))) hF A201 n202 c203 ac w (hA.sub _ rfl) hS
    replace hF := iff' hb207 hF
    refine hK _ [(8, .int .i64 x204), (9, .bool (decide (x204 < (a2.length : Int)))), (10, .bool (decide (x204 < (a2.length : Int)))), (11, .bool y129.2), (12, .bool (!y129.2)), (13, .bool (!y129.2)), (14, undef), (15, undef), (16, undef), (17, undef), (18, undef), (19, undef), (20, .bool false), (21, .bool false)] _ rfl ?_
    refine dEnd [0, 1, 2, 3, 4, 5, 8, 9, 10, 11, 12, 13, 14, 15, 16, 17, 18, 19, 20, 21] (by kernel_rfl) ⟨pu rfl rfl [(2, .slice A2 n2 c2)] (fun ac hA => y_move hA rfl rfl) rfl rfl, pu rfl rfl [(23, .slice A2 n2 c2)] (fun ac hA => y_len Try.underlying22 (hS.rdl 2 ha2 rfl).2.1 hA rfl rfl) rfl rfl, pu rfl rfl [(0, .pointer (some ⟨g102, 0, none⟩))] (fun ac hA => y_move hA rfl rfl) rfl rfl, pu rfl rfl [(25, .pointer (some ⟨g102, 0, none⟩))] (fun ac hA => r_nilCheck rfl (hA.ev rfl)) rfl rfl, pu rfl rfl [(26, .pointer (some ⟨g102, 0, none⟩))] (fun ac hA => y_fab fa68_1 hA rfl rfl) rfl rfl, pu rfl rfl [(27, .pointer (some ⟨g102, 1, none⟩))] (fun ac hA => y_ld Try.underlying3 (hS.cell 0 rfl 1 _ rfl) hA rfl rfl rfl) rfl rfl, pu rfl rfl [(28, .int .i64 x101.f1), (30, .int .i64 y197)] (fun ac hA => (rv_i h205 (r_sub rfl (hA.ev rfl) (hA.ev rfl)) : RunV _ _ _ _ (.int .i64 x204))) rfl rfl, pu rfl rfl [(24, .int .i64 (a2.length : Int)), (31, .int .i64 x204)] (fun ac hA => r_gtI rfl (hA.ev rfl) (hA.ev rfl)) rfl rfl, pu rfl rfl [(32, .bool (decide (x204 < (a2.length : Int))))] (fun ac hA => y_move hA rfl rfl) rfl rfl, puOn rfl rfl rfl rfl [(9, .bool y129.2), (33, .bool (decide (x204 < (a2.length : Int))))] rfl hb206 (fun ac hA => y_move hA rfl rfl) rfl, puOn rfl rfl rfl rfl [(33, .bool (decide (x204 < (a2.length : Int)))), (34, .bool y129.2)] rfl hb206 (fun ac hA => r_not rfl (hA.ev rfl)) rfl, puOn rfl rfl rfl rfl [(33, .bool (decide (x204 < (a2.length : Int)))), (35, .bool (!y129.2))] rfl hb206 (fun ac hA => y_move hA rfl rfl) rfl, puOff rfl rfl rfl rfl [(0, .pointer (some ⟨g102, 0, none⟩)), (36, .bool (!y129.2))] rfl hb207 rfl, puOff rfl rfl rfl rfl [(36, .bool (!y129.2)), (37, undef)] rfl hb207 rfl, puOff rfl rfl rfl rfl [(36, .bool (!y129.2)), (38, undef)] rfl hb207 rfl, puOff rfl rfl rfl rfl [(36, .bool (!y129.2)), (39, undef)] rfl hb207 rfl, puOff rfl rfl rfl rfl [(36, .bool (!y129.2)), (40, undef)] rfl hb207 rfl, puOff rfl rfl rfl rfl [(36, .bool (!y129.2)), (41, undef)] rfl hb207 rfl, puOn rfl rfl rfl rfl [(33, .bool (decide (x204 < (a2.length : Int)))), (36, .bool (!y129.2)), (42, undef)] rfl hb206 (fun ac hA => y_pickf hb207 hA rfl rfl rfl) rfl, pu rfl rfl [(33, .bool (decide (x204 < (a2.length : Int)))), (43, .bool false)] (fun ac hA => y_pickf hb206 hA rfl rfl rfl) rfl rfl, trivial⟩ ⟨by kernel_rfl, by kernel_rfl⟩ [(0, .pointer (some ⟨g102, 0, none⟩)), (1, str a1), (2, .slice A2 n2 c2), (8, .int .i64 y129.1), (9, .bool y129.2), (44, .bool false)] rfl (fun ac hA => ?_)
    exact hj1 false hF A201 n202 c203 ac w (hA.sub _ rfl) hS

set_option maxHeartbeats 4000000 in
theorem F_slices_Clone_byte_byte {r : World} {L : List HP} {w : World} (a0 : (List Int)) (A0 : Option Addr) (n0 : Nat) (c0 : Nat) {y : ((List Int))} (hF : slices_Clone_byte_byte a0 = some y) (ha0 : RdL L (kI .u8) A0 n0 c0 a0) (hS : SH r (L) w) :
    Ret Try.prog 39 #[.slice A0 n0 c0] w fun v w' => ∃ (B0 : Option Addr) (m0 : Nat) (d0 : Nat), v = .slice B0 m0 d0 ∧ SH r (own (kI .u8) 5 B0 m0 d0 y :: L) w' := by
  refine enter Try.func39 rfl Try.ntmps39 [(0, .slice A0 n0 c0)] rfl (by simp) ?_
  intro ac hA Qf hQ hQn
  unfold slices_Clone_byte_byte at hF
  refine wp_seq_k fun K101 hK101 => ?_
  refine wp_reg ?_
  refine x_assign hA (fun ac hA => ?_) rfl rfl rfl rfl rfl
  refine wpList_nil ?_
  refine hK101 _ _ ?_
  refine wp_seq_k fun K102 hK102 => ?_
  refine wp_seq_k fun K103 hK103 => ?_
  refine wp_reg ?_
  refine x_move hA (fun ac hA => ?_) rfl rfl rfl rfl rfl
  rcases A0 with _ | ad104
  · replace hF := nil_l (RdL.none_nil ha0 (hS.sfx 0)) hF
    refine x_val (v := .bool true) hA (r_eqNilS (p := none) Try.underlying22 rfl (hA.ev rfl) (hA.ev rfl)) (fun ac hA => ?_) rfl rfl rfl
    refine wpList_nil ?_
    refine hK103 _ _ ?_
    refine c_t (b := true) rfl hA ?_ rfl
    refine wp_seq_k fun K105 hK105 => ?_
    refine wp_reg ?_
    refine x_assign hA (fun ac hA => ?_) rfl rfl rfl rfl rfl
    refine wpList_nil ?_
    refine hK105 _ _ ?_
    refine wp_ret ?_
    replace hS := SH.nil_own (d := (kI .u8)) (e := 5) hS
    cases hF
    refine hQ _ _ ?_
    refine lv Try.results39 hA rfl ?_
    exact ⟨none, 0, 0, rfl, hS⟩
  replace hF := nil_r hF
  refine x_val (v := .bool false) hA (r_eqNilS (p := some ad104) Try.underlying22 rfl (hA.ev rfl) (hA.ev rfl)) (fun ac hA => ?_) rfl rfl rfl
  refine wpList_nil ?_
  refine hK103 _ _ ?_
  refine c_f (b := false) rfl hA ?_ rfl
  refine wp_skip ?_
  refine hK102 _ _ ?_
  refine wp_seq_k fun K106 hK106 => ?_
  refine wp_reg ?_
  refine x_bsl (d := (kI .u8)) (e := 5) (ps := #[]) (cells := []) (xs := []) (fun w => by kernel_rfl) rfl rfl hA hS (fun g107 ac w hS hA => ?_) rfl rfl rfl rfl rfl rfl
  refine x_move hA (fun ac hA => ?_) rfl rfl rfl rfl rfl
  obtain ⟨h108, hF⟩ := chk_some hF
  have hr := hS.rdl 1 ha0 rfl
  refine x_app 0 inf5 Try.underlying22 hA hS hr.1 hr.2.1 h108 rfl (fun A109 n110 c111 ac w hS hA => ?_) rfl rfl rfl rfl rfl rfl rfl rfl rfl
  rw [List.nil_append] at hS
  refine x_assign hA (fun ac hA => ?_) rfl rfl rfl rfl rfl
  refine wpList_nil ?_
  refine hK106 _ _ ?_
  refine wp_ret ?_
  cases hF
  refine hQ _ _ ?_
  refine lv Try.results39 hA rfl ?_
  exact ⟨A109, n110, c111, rfl, hS⟩

set_option maxHeartbeats 4000000 in
theorem F_files_Store_Read {r : World} {L : List HP} {w : World} (a0 : (Option S68)) (a1 : (List UInt8)) (p0 : Option Addr) {y : ((List Int) × Int)} (hF : files_Store_Read a0 a1 = some y) (hS : SH r (optP (obj68) p0 a0 :: L) w) :
    Ret Try.prog 13 #[.pointer p0, str a1] w fun v w' => ∃ (B0 : Option Addr) (m0 : Nat) (d0 : Nat), v = .tuple #[(.slice B0 m0 d0), (.int .i64 y.2)] ∧ SH r (own (kI .u8) 5 B0 m0 d0 y.1 :: optP (obj68) p0 a0 :: L) w' := by
  refine enter Try.func13 rfl Try.ntmps13 [(0, .pointer p0), (1, str a1)] rfl (by simp) ?_
  intro ac hA Qf hQ hQn
  unfold files_Store_Read at hF
  cases a0 with
  | none =>
    have hU := SH.unoptN hS
    clear hS
    obtain ⟨rfl, hS⟩ := hU
    refine wp_seq_k fun K103 hK103 => ?_
    refine wp_reg ?_
    refine x_assign hA (fun ac hA => ?_) rfl rfl rfl rfl rfl
    refine x_assign hA (fun ac hA => ?_) rfl rfl rfl rfl rfl
    refine wpList_nil ?_
    refine hK103 _ _ ?_
    refine wp_seq_k fun K104 hK104 => ?_
    refine wp_seq_k fun K105 hK105 => ?_
    refine wp_reg ?_
    refine x_move hA (fun ac hA => ?_) rfl rfl rfl rfl rfl
    refine x_move hA (fun ac hA => ?_) rfl rfl rfl rfl rfl
    replace hS := SH.optN (obj68) hS
    obtain ⟨y106, h107, hF⟩ := bnd hF
    refine x_call en35 hA (F_files_Store_look (L := L) none a1 none h107 hS) (fun v ac w hR hA => ?_) rfl rfl rfl rfl rfl
    obtain ⟨rfl, hS⟩ := hR
    refine x_assign hA (fun ac hA => ?_) rfl rfl rfl rfl rfl
    refine wpList_nil ?_
    refine hK105 _ _ ?_
    refine wp_seq_k fun K108 hK108 => ?_
    refine wp_reg ?_
    refine x_move hA (fun ac hA => ?_) rfl rfl rfl rfl rfl
    refine x_val hA (r_neI rfl (hA.ev rfl) (hA.ev rfl)) (fun ac hA => ?_) rfl rfl rfl
    refine wpList_nil ?_
    refine hK108 _ _ ?_
    refine c_if hA rfl (fun hb109 => ?_) fun hb109 => ?_
    · replace hF := ift hb109 hF
      refine wp_seq_k fun K110 hK110 => ?_
      refine wp_reg ?_
      refine x_move hA (fun ac hA => ?_) rfl rfl rfl rfl rfl
      refine x_assign hA (fun ac hA => ?_) rfl rfl rfl rfl rfl
      refine x_assign hA (fun ac hA => ?_) rfl rfl rfl rfl rfl
      refine wpList_nil ?_
      refine hK110 _ _ ?_
      refine wp_ret ?_
      replace hS := SH.nil_own (d := (kI .u8)) (e := 5) hS
      replace hS := SH.optN (obj68) hS
      replace hS := hS.drop 2
      replace hS := hS.pk 1
      cases hF
      refine hQ _ _ ?_
      refine lv2 Try.results13 hA rfl rfl ?_
      exact ⟨none, 0, 0, rfl, hS⟩
    replace hF := iff' hb109 hF
    refine wp_skip ?_
    refine hK104 _ _ ?_
    refine wp_seq_k fun K111 hK111 => ?_
    refine wp_reg ?_
    refine x_move hA (fun ac hA => ?_) rfl rfl rfl rfl rfl
    refine x_move hA (fun ac hA => ?_) rfl rfl rfl rfl rfl
    cases hF
  | some x101 =>
    have hU := SH.unoptS hS
    clear hS
    obtain ⟨g102, rfl, hS⟩ := hU
    obtain ⟨A112, n113, c114, hS⟩ := obj68_open hS
    refine wp_seq_k fun K115 hK115 => ?_
    refine wp_reg ?_
    refine x_assign hA (fun ac hA => ?_) rfl rfl rfl rfl rfl
    refine x_assign hA (fun ac hA => ?_) rfl rfl rfl rfl rfl
    refine wpList_nil ?_
    refine hK115 _ _ ?_
    refine wp_seq_k fun K116 hK116 => ?_
    refine wp_seq_k fun K117 hK117 => ?_
    refine wp_reg ?_
    refine x_move hA (fun ac hA => ?_) rfl rfl rfl rfl rfl
    refine x_move hA (fun ac hA => ?_) rfl rfl rfl rfl rfl
    replace hS := hS.pk 1
    replace hS := hS.pk 1
    replace hS := obj68_mk (x := x101) hS
    replace hS := SH.optS hS
    obtain ⟨y118, h119, hF⟩ := bnd hF
    refine x_call en35 hA (F_files_Store_look (L := L) (some x101) a1 (some ⟨g102, 0, none⟩) h119 hS) (fun v ac w hR hA => ?_) rfl rfl rfl rfl rfl
    obtain ⟨rfl, hS⟩ := hR
    replace hS := SH.unoptP hS
    obtain ⟨A122, n123, c124, hS⟩ := obj68_open hS
    refine x_assign hA (fun ac hA => ?_) rfl rfl rfl rfl rfl
    refine wpList_nil ?_
    refine hK117 _ _ ?_
    refine wp_seq_k fun K125 hK125 => ?_
    refine wp_reg ?_
    refine x_move hA (fun ac hA => ?_) rfl rfl rfl rfl rfl
    refine x_val hA (r_neI rfl (hA.ev rfl) (hA.ev rfl)) (fun ac hA => ?_) rfl rfl rfl
    refine wpList_nil ?_
    refine hK125 _ _ ?_
    refine c_if hA rfl (fun hb126 => ?_) fun hb126 => ?_
    · replace hF := ift hb126 hF
      refine wp_seq_k fun K127 hK127 => ?_
      refine wp_reg ?_
      refine x_move hA (fun ac hA => ?_) rfl rfl rfl rfl rfl
      refine x_assign hA (fun ac hA => ?_) rfl rfl rfl rfl rfl
      refine x_assign hA (fun ac hA => ?_) rfl rfl rfl rfl rfl
      refine wpList_nil ?_
      refine hK127 _ _ ?_
      refine wp_ret ?_
      replace hS := SH.nil_own (d := (kI .u8)) (e := 5) hS
      replace hS := hS.pk 2
      replace hS := hS.pk 2
      replace hS := obj68_mk (x := x101) hS
      replace hS := SH.optS hS
      replace hS := hS.pk 1
      cases hF
      refine hQ _ _ ?_
      refine lv2 Try.results13 hA rfl rfl ?_
      exact ⟨none, 0, 0, rfl, hS⟩
    replace hF := iff' hb126 hF
    refine wp_skip ?_
    refine hK116 _ _ ?_
    refine wp_seq_k fun K128 hK128 => ?_
    refine wp_reg ?_
    refine x_move hA (fun ac hA => ?_) rfl rfl rfl rfl rfl
    refine x_move hA (fun ac hA => ?_) rfl rfl rfl rfl rfl
    replace hS := hS.pk 1
    replace hS := hS.pk 1
    obtain ⟨y129, h130, hF⟩ := bnd hF
    refine x_call en36 hA (F_files_Store_find (L := L) x101 a1 g102 A122 n123 c124 h130 hS) (fun v ac w hR hA => ?_) rfl rfl rfl rfl rfl
    obtain ⟨rfl, hS⟩ := hR
    refine x_move hA (fun ac hA => ?_) rfl rfl rfl rfl rfl
    refine x_val hA (r_extract rfl (hA.ev rfl) rfl) (fun ac hA => ?_) rfl rfl rfl
    refine x_val hA (r_extract rfl (hA.ev rfl) rfl) (fun ac hA => ?_) rfl rfl rfl
    refine x_assign hA (fun ac hA => ?_) rfl rfl rfl rfl rfl
    refine x_assign hA (fun ac hA => ?_) rfl rfl rfl rfl rfl
    refine wpList_nil ?_
    refine hK128 _ _ ?_
    refine wp_seq_k fun K131 hK131 => ?_
    refine wp_seq_k fun K132 hK132 => ?_
    refine wp_reg ?_
    refine x_move hA (fun ac hA => ?_) rfl rfl rfl rfl rfl
    refine x_val hA (r_not rfl (hA.ev rfl)) (fun ac hA => ?_) rfl rfl rfl
    refine wpList_nil ?_
    refine hK132 _ _ ?_
    refine c_if hA rfl (fun hb133 => ?_) fun hb133 => ?_
    · replace hF := ift hb133 hF
      refine wp_seq_k fun K134 hK134 => ?_
      refine wp_reg ?_
      refine x_assign hA (fun ac hA => ?_) rfl rfl rfl rfl rfl
      refine x_assign hA (fun ac hA => ?_) rfl rfl rfl rfl rfl
      refine wpList_nil ?_
      refine hK134 _ _ ?_
      refine wp_ret ?_
      replace hS := SH.nil_own (d := (kI .u8)) (e := 5) hS
      replace hS := hS.pk 2
      replace hS := hS.pk 2
      replace hS := obj68_mk (x := x101) hS
      replace hS := SH.optS hS
      replace hS := hS.pk 1
      cases hF
      refine hQ _ _ ?_
      refine lv2 Try.results13 hA rfl rfl ?_
      exact ⟨none, 0, 0, rfl, hS⟩
    replace hF := iff' hb133 hF
    refine wp_skip ?_
    refine hK131 _ _ ?_
    refine wp_seq_k fun K135 hK135 => ?_
    refine wp_reg ?_
    refine x_move hA (fun ac hA => ?_) rfl rfl rfl rfl rfl
    refine x_val hA (r_nilCheck rfl (hA.ev rfl)) (fun ac hA => ?_) rfl rfl rfl
    refine x_fab fa68_0 hA (fun ac hA => ?_) rfl rfl rfl rfl rfl
    refine x_ld Try.underlying66 (hS.cell 0 rfl 0 _ rfl) hA (fun ac hA => ?_) rfl rfl rfl rfl rfl rfl
    refine x_move hA (fun ac hA => ?_) rfl rfl rfl rfl rfl
    obtain ⟨x136, h137, hF⟩ := bnd hF
    refine x_ia Try.underlying66 sz73 (hS.rd2L 1 rfl) h137 hA (fun ac hA => ?_) rfl rfl rfl rfl rfl rfl
    refine x_fae (m := y129.1.toNat * 3) fa73_1 hA (fun ac hA => ?_) rfl rfl rfl rfl rfl
    replace hS := hS.pk 1
    obtain ⟨ps138, A139, n140, c141, h142, h143, hS⟩ := own2_out hS h137
    obtain ⟨cs, hV, hc144⟩ := el (hS.rd 0 rfl) h143
    obtain rfl := hV
    refine x_ld Try.underlying22 (hc144 1 _ rfl) hA (fun ac hA => ?_) rfl rfl rfl rfl rfl rfl
    obtain ⟨y145, h146, hF⟩ := bnd hF
    refine x_call en39 hA (F_slices_Clone_byte_byte (L := own kp73 73 A122 n123 c124 ps138 :: own (kI .u8) 5 A139 n140 c141 x136.f1 :: rows (kI .u8) 5 (fun x : S73 => x.f1) (ps138.eraseIdx y129.1.toNat) :: blk g102 68 [.slice A122 n123 c124, .int .i64 x101.f1, .int .i64 x101.f2, .bool x101.f3, .int .i64 x101.f4] :: L) x136.f1 A139 n140 c141 h146 (RdL.own 1 rfl (hS.dropN 0)) hS) (fun v ac w hR hA => ?_) rfl rfl rfl rfl rfl
    obtain ⟨B147, m148, d149, rfl, hS⟩ := hR
    refine x_assign hA (fun ac hA => ?_) rfl rfl rfl rfl rfl
    refine x_assign hA (fun ac hA => ?_) rfl rfl rfl rfl rfl
    refine wpList_nil ?_
    refine hK135 _ _ ?_
    refine wp_ret ?_
    replace hS := hS.pk 3
    replace hS := hS.pk 3
    replace hS := hS.pk 3
    replace hS := own2_in0 (g := (fun x : S73 => x.f1)) (x := x136) h142 h143 hS
    replace hS := hS.pk 2
    replace hS := obj68_mk (x := x101) hS
    replace hS := SH.optS hS
    replace hS := hS.pk 1
    cases hF
    refine hQ _ _ ?_
    refine lv2 Try.results13 hA rfl rfl ?_
    exact ⟨B147, m148, d149, rfl, hS⟩
end Go.Proofs.Ytgjhiojkkjaloaa.M
