/- The calls come to the plain functions. -/
import Derived.Test.YtpanacifejpjhaaKd
import Derived.Test.YtpanacifejpjhaaGr
import Derived.Test.YtpanacifejpjhaaDa
namespace Go.Proofs.Ytpanacifejpjhaa.M
open Go Go.RowKit Go.Proofs.Ytpanacifejpjhaa.E
set_option linter.unusedVariables false
set_option linter.unusedSimpArgs false

set_option maxHeartbeats 4000000 in
theorem F_r06_Before {r : World} {L : List HP} {w : World} (a0 : S30) (a1 : S30) {y : (Bool)} (hF : r06_Before a0 a1 = some y) (hS : SH r (L) w) :
    Ret Try.prog 12 #[.agg #[.int .u64 a0.f0, .int .i64 a0.f1, .int .i64 a0.f2, str a0.f3, .float .f64 a0.f4], .agg #[.int .u64 a1.f0, .int .i64 a1.f1, .int .i64 a1.f2, str a1.f3, .float .f64 a1.f4]] w fun v w' => v = .bool y ∧ SH r (L) w' := by
  refine enter Try.func12 rfl Try.ntmps12 [(0, .agg #[.int .u64 a0.f0, .int .i64 a0.f1, .int .i64 a0.f2, str a0.f3, .float .f64 a0.f4]), (1, .agg #[.int .u64 a1.f0, .int .i64 a1.f1, .int .i64 a1.f2, str a1.f3, .float .f64 a1.f4])] rfl (by simp) ?_
  intro ac hA Qf hQ hQn
  unfold r06_Before at hF
  refine wp_seq_k fun K101 hK101 => ?_
  refine wp_reg ?_
  refine x_box hA hS (fun g102 ac w hS hA => ?_) rfl rfl rfl rfl rfl rfl
  refine x_box hA hS (fun g103 ac w hS hA => ?_) rfl rfl rfl rfl rfl rfl
  refine x_assign hA (fun ac hA => ?_) rfl rfl rfl rfl rfl
  refine wpList_nil ?_
  refine hK101 _ _ ?_
  refine wp_seq_k fun K104 hK104 => ?_
  refine wp_seq_k fun K105 hK105 => ?_
  refine wp_reg ?_
  refine x_fab fa30_3 hA (fun ac hA => ?_) rfl rfl rfl rfl rfl
  refine x_ld Try.underlying9 (hS.cell 1 rfl 3 _ rfl) hA (fun ac hA => ?_) rfl rfl rfl rfl rfl rfl
  refine x_fab fa30_3 hA (fun ac hA => ?_) rfl rfl rfl rfl rfl
  refine x_ld Try.underlying9 (hS.cell 0 rfl 3 _ rfl) hA (fun ac hA => ?_) rfl rfl rfl rfl rfl rfl
  refine x_val hA (r_neS rfl (hA.ev rfl) (hA.ev rfl)) (fun ac hA => ?_) rfl rfl rfl
  refine wpList_nil ?_
  refine hK105 _ _ ?_
  refine c_if hA rfl (fun hb106 => ?_) fun hb106 => ?_
  · replace hF := ift hb106 hF
    refine wp_seq_k fun K107 hK107 => ?_
    refine wp_reg ?_
    refine x_fab fa30_3 hA (fun ac hA => ?_) rfl rfl rfl rfl rfl
    refine x_ld Try.underlying9 (hS.cell 1 rfl 3 _ rfl) hA (fun ac hA => ?_) rfl rfl rfl rfl rfl rfl
    refine x_fab fa30_3 hA (fun ac hA => ?_) rfl rfl rfl rfl rfl
    refine x_ld Try.underlying9 (hS.cell 0 rfl 3 _ rfl) hA (fun ac hA => ?_) rfl rfl rfl rfl rfl rfl
    refine x_val hA (r_ltS rfl (hA.ev rfl) (hA.ev rfl)) (fun ac hA => ?_) rfl rfl rfl
    refine x_assign hA (fun ac hA => ?_) rfl rfl rfl rfl rfl
    refine wpList_nil ?_
    refine hK107 _ _ ?_
    refine wp_ret ?_
    replace hS := hS.drop 0
    replace hS := hS.drop 0
    cases hF
    refine hQ _ _ ?_
    refine lv Try.results12 hA rfl ?_
    exact ⟨rfl, hS⟩
  replace hF := iff' hb106 hF
  refine wp_skip ?_
  refine hK104 _ _ ?_
  refine wp_seq_k fun K108 hK108 => ?_
  refine wp_seq_k fun K109 hK109 => ?_
  refine wp_reg ?_
  refine x_fab fa30_2 hA (fun ac hA => ?_) rfl rfl rfl rfl rfl
  refine x_ld Try.underlying2 (hS.cell 1 rfl 2 _ rfl) hA (fun ac hA => ?_) rfl rfl rfl rfl rfl rfl
  refine x_fab fa30_2 hA (fun ac hA => ?_) rfl rfl rfl rfl rfl
  refine x_ld Try.underlying2 (hS.cell 0 rfl 2 _ rfl) hA (fun ac hA => ?_) rfl rfl rfl rfl rfl rfl
  refine x_val hA (r_neI rfl (hA.ev rfl) (hA.ev rfl)) (fun ac hA => ?_) rfl rfl rfl
  refine wpList_nil ?_
  refine hK109 _ _ ?_
  refine c_if hA rfl (fun hb110 => ?_) fun hb110 => ?_
  · replace hF := ift hb110 hF
    refine wp_seq_k fun K111 hK111 => ?_
    refine wp_reg ?_
    refine x_fab fa30_2 hA (fun ac hA => ?_) rfl rfl rfl rfl rfl
    refine x_ld Try.underlying2 (hS.cell 1 rfl 2 _ rfl) hA (fun ac hA => ?_) rfl rfl rfl rfl rfl rfl
    refine x_fab fa30_2 hA (fun ac hA => ?_) rfl rfl rfl rfl rfl
    refine x_ld Try.underlying2 (hS.cell 0 rfl 2 _ rfl) hA (fun ac hA => ?_) rfl rfl rfl rfl rfl rfl
    refine x_val hA (r_ltI rfl (hA.ev rfl) (hA.ev rfl)) (fun ac hA => ?_) rfl rfl rfl
    refine x_assign hA (fun ac hA => ?_) rfl rfl rfl rfl rfl
    refine wpList_nil ?_
    refine hK111 _ _ ?_
    refine wp_ret ?_
    replace hS := hS.drop 0
    replace hS := hS.drop 0
    cases hF
    refine hQ _ _ ?_
    refine lv Try.results12 hA rfl ?_
    exact ⟨rfl, hS⟩
  replace hF := iff' hb110 hF
  refine wp_skip ?_
  refine hK108 _ _ ?_
  refine wp_seq_k fun K112 hK112 => ?_
  refine wp_reg ?_
  refine x_fab fa30_0 hA (fun ac hA => ?_) rfl rfl rfl rfl rfl
  refine x_ld Try.underlying27 (hS.cell 1 rfl 0 _ rfl) hA (fun ac hA => ?_) rfl rfl rfl rfl rfl rfl
  refine x_fab fa30_0 hA (fun ac hA => ?_) rfl rfl rfl rfl rfl
  refine x_ld Try.underlying27 (hS.cell 0 rfl 0 _ rfl) hA (fun ac hA => ?_) rfl rfl rfl rfl rfl rfl
  refine x_val hA (r_ltI rfl (hA.ev rfl) (hA.ev rfl)) (fun ac hA => ?_) rfl rfl rfl
  refine x_assign hA (fun ac hA => ?_) rfl rfl rfl rfl rfl
  refine wpList_nil ?_
  refine hK112 _ _ ?_
  refine wp_ret ?_
  replace hS := hS.drop 0
  replace hS := hS.drop 0
  cases hF
  refine hQ _ _ ?_
  refine lv Try.results12 hA rfl ?_
  exact ⟨rfl, hS⟩

set_option maxHeartbeats 4000000 in
theorem F_event_Less {r : World} {L : List HP} {w : World} (a0 : S30) (a1 : S30) {y : (Bool)} (hF : event_Less a0 a1 = some y) (hS : SH r (L) w) :
    Ret Try.prog 23 #[.agg #[.int .u64 a0.f0, .int .i64 a0.f1, .int .i64 a0.f2, str a0.f3, .float .f64 a0.f4], .agg #[.int .u64 a1.f0, .int .i64 a1.f1, .int .i64 a1.f2, str a1.f3, .float .f64 a1.f4]] w fun v w' => v = .bool y ∧ SH r (L) w' := by
  refine enter Try.func23 rfl Try.ntmps23 [(0, .agg #[.int .u64 a0.f0, .int .i64 a0.f1, .int .i64 a0.f2, str a0.f3, .float .f64 a0.f4]), (1, .agg #[.int .u64 a1.f0, .int .i64 a1.f1, .int .i64 a1.f2, str a1.f3, .float .f64 a1.f4])] rfl (by simp) ?_
  intro ac hA Qf hQ hQn
  unfold event_Less at hF
  refine wp_seq_k fun K101 hK101 => ?_
  refine wp_reg ?_
  refine x_box hA hS (fun g102 ac w hS hA => ?_) rfl rfl rfl rfl rfl rfl
  refine x_box hA hS (fun g103 ac w hS hA => ?_) rfl rfl rfl rfl rfl rfl
  refine x_assign hA (fun ac hA => ?_) rfl rfl rfl rfl rfl
  refine wpList_nil ?_
  refine hK101 _ _ ?_
  refine wp_seq_k fun K104 hK104 => ?_
  refine wp_block_k fun Kx105 hKx105 => ?_
  refine wp_seq_k fun K106 hK106 => ?_
  refine wp_reg ?_
  refine x_fab fa30_3 hA (fun ac hA => ?_) rfl rfl rfl rfl rfl
  refine x_ld Try.underlying9 (hS.cell 1 rfl 3 _ rfl) hA (fun ac hA => ?_) rfl rfl rfl rfl rfl rfl
  refine x_fab fa30_3 hA (fun ac hA => ?_) rfl rfl rfl rfl rfl
  refine x_ld Try.underlying9 (hS.cell 0 rfl 3 _ rfl) hA (fun ac hA => ?_) rfl rfl rfl rfl rfl rfl
  refine x_val hA (r_neS rfl (hA.ev rfl) (hA.ev rfl)) (fun ac hA => ?_) rfl rfl rfl
  refine x_assign hA (fun ac hA => ?_) rfl rfl rfl rfl rfl
  refine wpList_nil ?_
  refine hK106 _ _ ?_
  refine c_if hA rfl (fun hb107 => ?_) fun hb107 => ?_
  · replace hF := ift hb107 hF
    refine wp_seq_k fun K108 hK108 => ?_
    refine wp_reg ?_
    refine x_fab fa30_3 hA (fun ac hA => ?_) rfl rfl rfl rfl rfl
    refine x_ld Try.underlying9 (hS.cell 1 rfl 3 _ rfl) hA (fun ac hA => ?_) rfl rfl rfl rfl rfl rfl
    refine x_fab fa30_3 hA (fun ac hA => ?_) rfl rfl rfl rfl rfl
    refine x_ld Try.underlying9 (hS.cell 0 rfl 3 _ rfl) hA (fun ac hA => ?_) rfl rfl rfl rfl rfl rfl
    refine x_val hA (r_ltS rfl (hA.ev rfl) (hA.ev rfl)) (fun ac hA => ?_) rfl rfl rfl
    refine x_assign hA (fun ac hA => ?_) rfl rfl rfl rfl rfl
    refine wpList_nil ?_
    refine hK108 _ _ ?_
    refine wp_ret ?_
    replace hS := hS.drop 0
    replace hS := hS.drop 0
    cases hF
    refine hQ _ _ ?_
    refine lv Try.results23 hA rfl ?_
    exact ⟨rfl, hS⟩
  replace hF := iff' hb107 hF
  refine wp_seq_k fun K109 hK109 => ?_
  refine wp_reg ?_
  refine x_fab fa30_2 hA (fun ac hA => ?_) rfl rfl rfl rfl rfl
  refine x_ld Try.underlying2 (hS.cell 1 rfl 2 _ rfl) hA (fun ac hA => ?_) rfl rfl rfl rfl rfl rfl
  refine x_fab fa30_2 hA (fun ac hA => ?_) rfl rfl rfl rfl rfl
  refine x_ld Try.underlying2 (hS.cell 0 rfl 2 _ rfl) hA (fun ac hA => ?_) rfl rfl rfl rfl rfl rfl
  refine x_val hA (r_neI rfl (hA.ev rfl) (hA.ev rfl)) (fun ac hA => ?_) rfl rfl rfl
  refine x_assign hA (fun ac hA => ?_) rfl rfl rfl rfl rfl
  refine wpList_nil ?_
  refine hK109 _ _ ?_
  refine c_if hA rfl (fun hb110 => ?_) fun hb110 => ?_
  · replace hF := ift hb110 hF
    refine wp_seq_k fun K111 hK111 => ?_
    refine wp_reg ?_
    refine x_fab fa30_2 hA (fun ac hA => ?_) rfl rfl rfl rfl rfl
    refine x_ld Try.underlying2 (hS.cell 1 rfl 2 _ rfl) hA (fun ac hA => ?_) rfl rfl rfl rfl rfl rfl
    refine x_fab fa30_2 hA (fun ac hA => ?_) rfl rfl rfl rfl rfl
    refine x_ld Try.underlying2 (hS.cell 0 rfl 2 _ rfl) hA (fun ac hA => ?_) rfl rfl rfl rfl rfl rfl
    refine x_val hA (r_ltI rfl (hA.ev rfl) (hA.ev rfl)) (fun ac hA => ?_) rfl rfl rfl
    refine x_assign hA (fun ac hA => ?_) rfl rfl rfl rfl rfl
    refine wpList_nil ?_
    refine hK111 _ _ ?_
    refine wp_ret ?_
    replace hS := hS.drop 0
    replace hS := hS.drop 0
    cases hF
    refine hQ _ _ ?_
    refine lv Try.results23 hA rfl ?_
    exact ⟨rfl, hS⟩
  replace hF := iff' hb110 hF
  refine wp_skip ?_
  refine hKx105 _ _ ?_
  refine hK104 _ _ ?_
  refine wp_seq_k fun K112 hK112 => ?_
  refine wp_reg ?_
  refine x_fab fa30_0 hA (fun ac hA => ?_) rfl rfl rfl rfl rfl
  refine x_ld Try.underlying27 (hS.cell 1 rfl 0 _ rfl) hA (fun ac hA => ?_) rfl rfl rfl rfl rfl rfl
  refine x_fab fa30_0 hA (fun ac hA => ?_) rfl rfl rfl rfl rfl
  refine x_ld Try.underlying27 (hS.cell 0 rfl 0 _ rfl) hA (fun ac hA => ?_) rfl rfl rfl rfl rfl rfl
  refine x_val hA (r_ltI rfl (hA.ev rfl) (hA.ev rfl)) (fun ac hA => ?_) rfl rfl rfl
  refine x_assign hA (fun ac hA => ?_) rfl rfl rfl rfl rfl
  refine wpList_nil ?_
  refine hK112 _ _ ?_
  refine wp_ret ?_
  replace hS := hS.drop 0
  replace hS := hS.drop 0
  cases hF
  refine hQ _ _ ?_
  refine lv Try.results23 hA rfl ?_
  exact ⟨rfl, hS⟩

set_option maxHeartbeats 4000000 in
theorem F_law09_few {r : World} {L : List HP} {w : World} {Z : Nat → Prop} {wz : World} (a0 : (List (List S30))) (A0 : Option Addr) (n0 : Nat) (c0 : Nat) {y : (Bool)} (hF : law09_few a0 = some y) (qz : Nat) (hZ : L[qz]? = some (zone Z wz)) (ha0 : RdL L (kM Z wz k30) A0 n0 c0 a0) (hS : SH r (L) w) :
    Ret Try.prog 11 #[.slice A0 n0 c0] w fun v w' => v = .bool y ∧ SH r (L) w' := by
  refine enter Try.func11 rfl Try.ntmps11 [(0, .slice A0 n0 c0)] rfl (by simp) ?_
  intro ac hA Qf hQ hQn
  unfold law09_few at hF
  refine wp_seq_k fun K101 hK101 => ?_
  refine wp_reg ?_
  refine x_assign hA (fun ac hA => ?_) rfl rfl rfl rfl rfl
  refine wpList_nil ?_
  refine hK101 _ _ ?_
  refine wp_seq_k fun K102 hK102 => ?_
  refine wp_reg ?_
  refine x_assign hA (fun ac hA => ?_) rfl rfl rfl rfl rfl
  refine wpList_nil ?_
  refine hK102 _ _ ?_
  refine wp_seq_k fun K103 hK103 => ?_
  refine wp_seq_k fun K325 hK325 => ?_
  refine wp_reg ?_
  refine x_assign hA (fun ac hA => ?_) rfl rfl rfl rfl rfl
  refine wpList_nil ?_
  refine hK325 _ _ ?_
  refine wp_block_k fun Kx326 hKx326 => ?_
  have hb1 : law09_few_b1 a0 = some y → ∀ (ac : Act) (w : World), FR 31 [] ac [(0, .slice A0 n0 c0)] → SH r (L) w → Kx326 ac w := by
    intro hF ac w hA hS
    unfold law09_few_b1 at hF
    refine hKx326 _ _ ?_
    refine hK103 _ _ ?_
    refine wp_seq_k fun K436 hK436 => ?_
    refine wp_reg ?_
    refine x_move hA (fun ac hA => ?_) rfl rfl rfl rfl rfl
    refine x_len Try.underlying22 (hS.rdl 0 ha0 rfl).2.1 hA (fun ac hA => ?_) rfl rfl rfl rfl rfl
    refine x_val hA (r_leI rfl (hA.ev rfl) (hA.ev rfl)) (fun ac hA => ?_) rfl rfl rfl
    refine x_assign hA (fun ac hA => ?_) rfl rfl rfl rfl rfl
    refine wpList_nil ?_
    refine hK436 _ _ ?_
    refine wp_ret ?_
    cases hF
    refine hQ _ _ ?_
    refine lv Try.results11 hA rfl ?_
    exact ⟨rfl, hS⟩
  obtain ⟨t510, hl510, hF⟩ := bnd hF
  have hR510 := hF
  have hx510_0 : (.inl ()) = t510 → ∀ (ac : Act) (w : World), FR 31 [] ac [(0, .slice A0 n0 c0)] → SH r (L) w → Kx326 ac w := by
    intro ht ac w hA hS
    subst ht
    replace hF : law09_few_x1_0 a0 = some y := hF
    unfold law09_few_x1_0 at hF
    exact hb1 hF ac w (hA.sub _ rfl) hS
  refine wp_loop_fn hl510 (fun s ac w => FR 31 [] ac [(0, .slice A0 n0 c0), (3, .int .i64 s.1), (4, .int .i64 s.2)] ∧ SH r (L) w) ⟨hA.sub _ rfl, hS⟩ ?_
  intro N510 s510 o510 hF N510_ T510_ ac w hLab
  obtain ⟨x473, x474⟩ := s510
  replace hF : law09_few_l1 a0 x473 x474 = some o510 := hF
  unfold law09_few_l1 at hF
  try dsimp only at hLab
  obtain ⟨hA, hS⟩ := hLab
  refine wp_seq_k fun K512 hK512 => ?_
  refine wp_seq_k fun K513 hK513 => ?_
  refine wp_reg ?_
  refine x_move hA (fun ac hA => ?_) rfl rfl rfl rfl rfl
  refine x_move hA (fun ac hA => ?_) rfl rfl rfl rfl rfl
  refine x_len Try.underlying22 (hS.rdl 0 ha0 rfl).2.1 hA (fun ac hA => ?_) rfl rfl rfl rfl rfl
  refine x_val hA (r_ltI rfl (hA.ev rfl) (hA.ev rfl)) (fun ac hA => ?_) rfl rfl rfl
  refine wpList_nil ?_
  refine hK513 _ _ ?_
  refine c_if hA rfl (fun hb514 => ?_) fun hb514 => ?_
  · replace hF := ift hb514 hF
    refine wp_skip ?_
    refine hK512 _ _ ?_
    refine wp_seq_k fun K515 hK515 => ?_
    refine wp_block_k fun Kx516 hKx516 => ?_
    refine wp_seq_k fun K517 hK517 => ?_
    refine wp_seq_k fun K518 hK518 => ?_
    have hj1 : ∀ (b527 : Bool), law09_few_j1 a0 x473 x474 b527 = some o510 → ∀ (ac : Act) (w : World), FR 31 [] ac [(0, .slice A0 n0 c0), (3, .int .i64 x473), (4, .int .i64 x474), (20, .bool b527)] → SH r (L) w → K518 ac w := by
      intro b527 hF ac w hA hS
      unfold law09_few_j1 at hF
      refine hK518 _ _ ?_
      refine c_if hA rfl (fun hb528 => ?_) fun hb528 => ?_
      · replace hF := ift hb528 hF
        refine wp_seq_k fun K529 hK529 => ?_
        refine wp_reg ?_
        refine x_assign hA (fun ac hA => ?_) rfl rfl rfl rfl rfl
        refine wpList_nil ?_
        refine hK529 _ _ ?_
        refine wp_ret ?_
        cases hF
        have ht := T510_ _ rfl
        subst ht
        replace hF := hR510
        replace hF : some false = some y := hF
        cases hF
        refine hQ _ _ ?_
        refine lv Try.results11 hA rfl ?_
        exact ⟨rfl, hS⟩
      replace hF := iff' hb528 hF
      refine wp_skip ?_
      refine hK517 _ _ ?_
      refine wp_reg ?_
      refine x_move hA (fun ac hA => ?_) rfl rfl rfl rfl rfl
      refine x_move hA (fun ac hA => ?_) rfl rfl rfl rfl rfl
      refine x_move hA (fun ac hA => ?_) rfl rfl rfl rfl rfl
      obtain ⟨x530, h531, hF⟩ := bnd hF
      refine x_ia Try.underlying22 sz25 (hS.rdl 0 ha0 rfl) h531 hA (fun ac hA => ?_) rfl rfl rfl rfl rfl rfl
      obtain ⟨cs, hV, hc532⟩ := el (hS.rdl 0 ha0 rfl) h531
      obtain ⟨A533, n534, c535, rfl, h536⟩ := hV
      refine x_ld Try.underlying25 (hc532 0 _ rfl) hA (fun ac hA => ?_) rfl rfl rfl rfl rfl rfl
      refine x_len Try.underlying25 (hS.rdl 0 (h536.rdl qz hZ) rfl).2.1 hA (fun ac hA => ?_) rfl rfl rfl rfl rfl
      refine x_val hA (r_add rfl (hA.ev rfl) (hA.ev rfl)) (fun ac hA => ?_) rfl rfl rfl
      refine x_assign hA (fun ac hA => ?_) rfl rfl rfl rfl rfl
      refine wpList_nil ?_
      refine hKx516 _ _ ?_
      refine hK515 _ _ ?_
      refine wp_reg ?_
      refine x_move hA (fun ac hA => ?_) rfl rfl rfl rfl rfl
      refine x_val hA (r_add rfl (hA.ev rfl) (hA.ev rfl)) (fun ac hA => ?_) rfl rfl rfl
      refine x_assign hA (fun ac hA => ?_) rfl rfl rfl rfl rfl
      refine wpList_nil ?_
      cases hF
      exact ⟨_, N510_ _ rfl, hA.sub _ rfl, hS⟩
    refine wp_reg ?_
    refine x_move hA (fun ac hA => ?_) rfl rfl rfl rfl rfl
    refine x_move hA (fun ac hA => ?_) rfl rfl rfl rfl rfl
    obtain ⟨x537, h538, hF⟩ := bnd hF
    refine x_ia Try.underlying22 sz25 (hS.rdl 0 ha0 rfl) h538 hA (fun ac hA => ?_) rfl rfl rfl rfl rfl rfl
    obtain ⟨cs, hV, hc539⟩ := el (hS.rdl 0 ha0 rfl) h538
    obtain ⟨A540, n541, c542, rfl, h543⟩ := hV
    refine x_ld Try.underlying25 (hc539 0 _ rfl) hA (fun ac hA => ?_) rfl rfl rfl rfl rfl rfl
    refine x_len Try.underlying25 (hS.rdl 0 (h543.rdl qz hZ) rfl).2.1 hA (fun ac hA => ?_) rfl rfl rfl rfl rfl
    refine x_val hA (r_gtI rfl (hA.ev rfl) (hA.ev rfl)) (fun ac hA => ?_) rfl rfl rfl
    refine x_move hA (fun ac hA => ?_) rfl rfl rfl rfl rfl
    refine bcase (b := decide (100 < (x537.length : Int))) (fun hb544 => ?_) fun hb544 => ?_
    · replace hF := ift hb544 hF
      refine x_off hb544 hA (fun ac hA => ?_) rfl rfl rfl rfl rfl
      refine x_off hb544 hA (fun ac hA => ?_) rfl rfl rfl rfl rfl
      refine x_pickt hb544 hA (fun ac hA => ?_) rfl rfl rfl rfl rfl rfl
      refine wpList_nil ?_
      exact hj1 true hF ac w (hA.sub _ rfl) hS
    replace hF := iff' hb544 hF
    refine x_on hb544 hA ?_ rfl rfl rfl
    refine x_move hA (fun ac hA => ?_) rfl rfl rfl rfl rfl
    refine x_on hb544 hA ?_ rfl rfl rfl
    refine x_val hA (r_gtI rfl (hA.ev rfl) (hA.ev rfl)) (fun ac hA => ?_) rfl rfl rfl
    refine x_pickf hb544 hA (fun ac hA => ?_) rfl rfl rfl rfl rfl rfl
    refine wpList_nil ?_
    exact hj1 (decide (200 < x473)) hF ac w (hA.sub _ rfl) hS
  replace hF := iff' hb514 hF
  refine wp_exit ?_
  cases hF
  exact hx510_0 (T510_ _ rfl) ac w (hA.sub _ rfl) hS

set_option maxHeartbeats 4000000 in
theorem F_r06_Sort {r : World} {L : List HP} {w : World} (a0 : (List S30)) (A0 : Option Addr) (n0 : Nat) (c0 : Nat) {y : ((List S30))} (hF : r06_Sort a0 = some y) (ha0 : RdL L k30 A0 n0 c0 a0) (hS : SH r (L) w) :
    Ret Try.prog 15 #[.slice A0 n0 c0] w fun v w' => ∃ (B0 : Option Addr) (m0 : Nat) (d0 : Nat), v = .slice B0 m0 d0 ∧ SH r (own k30 30 B0 m0 d0 y :: L) w' := by
  refine enter Try.func15 rfl Try.ntmps15 [(0, .slice A0 n0 c0)] rfl (by simp) ?_
  intro ac hA Qf hQ hQn
  unfold r06_Sort at hF
  refine wp_seq_k fun K101 hK101 => ?_
  refine wp_reg ?_
  refine x_assign hA (fun ac hA => ?_) rfl rfl rfl rfl rfl
  refine wpList_nil ?_
  refine hK101 _ _ ?_
  refine wp_seq_k fun K102 hK102 => ?_
  refine wp_reg ?_
  refine x_assign hA (fun ac hA => ?_) rfl rfl rfl rfl rfl
  refine wpList_nil ?_
  refine hK102 _ _ ?_
  refine wp_seq_k fun K103 hK103 => ?_
  refine wp_seq_k fun K2231 hK2231 => ?_
  refine wp_reg ?_
  refine x_assign hA (fun ac hA => ?_) rfl rfl rfl rfl rfl
  refine wpList_nil ?_
  refine hK2231 _ _ ?_
  refine wp_block_k fun Kx2232 hKx2232 => ?_
  have hb1 : ∀ (l3293 : (List S30)), r06_Sort_b1 l3293 = some y → ∀ (A3294 : Option Addr) (n3295 : Nat) (c3296 : Nat) (ac : Act) (w : World), FR 49 [] ac [(3, .slice A3294 n3295 c3296)] → SH r (own k30 30 A3294 n3295 c3296 l3293 :: L) w → Kx2232 ac w := by
    intro l3293 hF A3294 n3295 c3296 ac w hA hS
    unfold r06_Sort_b1 at hF
    refine hKx2232 _ _ ?_
    refine hK103 _ _ ?_
    refine wp_seq_k fun K3297 hK3297 => ?_
    refine wp_reg ?_
    refine x_move hA (fun ac hA => ?_) rfl rfl rfl rfl rfl
    refine x_assign hA (fun ac hA => ?_) rfl rfl rfl rfl rfl
    refine wpList_nil ?_
    refine hK3297 _ _ ?_
    refine wp_ret ?_
    cases hF
    refine hQ _ _ ?_
    refine lv Try.results15 hA rfl ?_
    exact ⟨A3294, n3295, c3296, rfl, hS⟩
  obtain ⟨t4012, hl4012, hF⟩ := bnd hF
  have hx4012_0 : ∀ (l4009 : (List S30)), (l4009) = t4012 → ∀ (A4010 : Option Addr) (n4011 : Nat) (c4012 : Nat) (ac : Act) (w : World), FR 49 [] ac [(3, .slice A4010 n4011 c4012)] → SH r (own k30 30 A4010 n4011 c4012 l4009 :: L) w → Kx2232 ac w := by
    intro l4009 ht A4010 n4011 c4012 ac w hA hS
    subst ht
    replace hF : r06_Sort_x1_0 l4009 = some y := hF
    unfold r06_Sort_x1_0 at hF
    exact hb1 l4009 hF A4010 n4011 c4012 ac w (hA.sub _ rfl) hS
  replace hS := SH.nil_own (d := k30) (e := 30) hS
  refine wp_loop_fn hl4012 (fun s ac w => ∃ (A3656 : Option Addr) (n3657 : Nat) (c3658 : Nat), FR 49 [] ac [(0, .slice A0 n0 c0), (3, .slice A3656 n3657 c3658), (4, .int .i64 s.2)] ∧ SH r (own k30 30 A3656 n3657 c3658 s.1 :: L) w) ⟨none, 0, 0, hA.sub _ rfl, hS⟩ ?_
  intro N4012 s4012 o4012 hF N4012_ T4012_ ac w hLab
  obtain ⟨l3655, x3659⟩ := s4012
  replace hF : r06_Sort_l1 a0 l3655 x3659 = some o4012 := hF
  unfold r06_Sort_l1 at hF
  try dsimp only at hLab
  obtain ⟨A3656, n3657, c3658, hA, hS⟩ := hLab
  refine wp_seq_k fun K4014 hK4014 => ?_
  refine wp_seq_k fun K4015 hK4015 => ?_
  refine wp_reg ?_
  refine x_move hA (fun ac hA => ?_) rfl rfl rfl rfl rfl
  refine x_move hA (fun ac hA => ?_) rfl rfl rfl rfl rfl
  refine x_len Try.underlying25 (hS.rdl 1 ha0 rfl).2.1 hA (fun ac hA => ?_) rfl rfl rfl rfl rfl
  refine x_val hA (r_ltI rfl (hA.ev rfl) (hA.ev rfl)) (fun ac hA => ?_) rfl rfl rfl
  refine wpList_nil ?_
  refine hK4015 _ _ ?_
  refine c_if hA rfl (fun hb4016 => ?_) fun hb4016 => ?_
  · replace hF := ift hb4016 hF
    refine wp_skip ?_
    refine hK4014 _ _ ?_
    refine wp_seq_k fun K4017 hK4017 => ?_
    refine wp_block_k fun Kx4018 hKx4018 => ?_
    refine wp_seq_k fun K4019 hK4019 => ?_
    refine wp_reg ?_
    refine x_move hA (fun ac hA => ?_) rfl rfl rfl rfl rfl
    refine x_len Try.underlying25 (hS.rd 0 rfl).2.1 hA (fun ac hA => ?_) rfl rfl rfl rfl rfl
    refine x_assign hA (fun ac hA => ?_) rfl rfl rfl rfl rfl
    refine wpList_nil ?_
    refine hK4019 _ _ ?_
    refine wp_seq_k fun K4020 hK4020 => ?_
    refine wp_block_k fun Kx4178 hKx4178 => ?_
    have hb2 : ∀ (x4256 : Int), r06_Sort_b2 a0 l3655 x3659 x4256 = some o4012 → ∀ (ac : Act) (w : World), FR 49 [] ac [(0, .slice A0 n0 c0), (3, .slice A3656 n3657 c3658), (4, .int .i64 x3659), (5, .int .i64 x4256)] → SH r (own k30 30 A3656 n3657 c3658 l3655 :: L) w → Kx4178 ac w := by
      intro x4256 hF ac w hA hS
      unfold r06_Sort_b2 at hF
      refine hKx4178 _ _ ?_
      refine hK4020 _ _ ?_
      refine wp_seq_k fun K4257 hK4257 => ?_
      refine wp_reg ?_
      refine x_assign hA (fun ac hA => ?_) rfl rfl rfl rfl rfl
      refine wpList_nil ?_
      refine hK4257 _ _ ?_
      refine wp_seq_k fun K4258 hK4258 => ?_
      refine wp_reg ?_
      refine x_move hA (fun ac hA => ?_) rfl rfl rfl rfl rfl
      refine x_move hA (fun ac hA => ?_) rfl rfl rfl rfl rfl
      refine x_move hA (fun ac hA => ?_) rfl rfl rfl rfl rfl
      obtain ⟨l4259, h4260, hF⟩ := bnd hF
      refine x_val hA (r_slice_h Try.underlying25 sz30 rfl (hA.ev rfl) (hA.ev rfl) (cutq (hS.rd 0 rfl) h4260).2.2.2.2.1 (cutq (hS.rd 0 rfl) h4260).2.2.1) (fun ac hA => ?_) rfl rfl rfl
      replace hS := SH.nil_own (d := k30) (e := 30) hS
      obtain ⟨h4261, hF⟩ := chk_some hF
      have hr := rq_h (hS.rd 1 rfl) h4260
      refine x_app 0 inf30 Try.underlying25 hA hS hr.1 hr.2.1 h4261 rfl (fun A4262 n4263 c4264 ac w hS hA => ?_) rfl rfl rfl rfl rfl rfl rfl rfl rfl
      rw [List.nil_append] at hS
      refine x_assign hA (fun ac hA => ?_) rfl rfl rfl rfl rfl
      refine wpList_nil ?_
      refine hK4258 _ _ ?_
      refine wp_seq_k fun K4265 hK4265 => ?_
      refine wp_reg ?_
      refine x_move hA (fun ac hA => ?_) rfl rfl rfl rfl rfl
      refine x_move hA (fun ac hA => ?_) rfl rfl rfl rfl rfl
      refine x_move hA (fun ac hA => ?_) rfl rfl rfl rfl rfl
      obtain ⟨x4266, h4267, hF⟩ := bnd hF
      refine x_ia Try.underlying25 sz30 (hS.rdl 2 ha0 rfl) h4267 hA (fun ac hA => ?_) rfl rfl rfl rfl rfl rfl
      obtain ⟨cs, hV, hc4268⟩ := el (hS.rdl 2 ha0 rfl) h4267
      obtain rfl := hV
      refine x_lda (cs := [.int .u64 x4266.f0, .int .i64 x4266.f1, .int .i64 x4266.f2, str x4266.f3, .float .f64 x4266.f4]) Try.underlying30 sz30 (fun j u h => by rw [ea_add]; exact hc4268 _ _ h) hA (fun ac hA => ?_) rfl rfl rfl rfl rfl rfl
      refine x_bsl (d := k30) (e := 30) (ps := #[(0, .agg #[.int .u64 x4266.f0, .int .i64 x4266.f1, .int .i64 x4266.f2, str x4266.f3, .float .f64 x4266.f4])]) (cells := [.int .u64 x4266.f0, .int .i64 x4266.f1, .int .i64 x4266.f2, str x4266.f3, .float .f64 x4266.f4]) (xs := [x4266]) (fun w => by kernel_rfl) rfl ⟨[.int .u64 x4266.f0, .int .i64 x4266.f1, .int .i64 x4266.f2, str x4266.f3, .float .f64 x4266.f4], _, rfl, rfl, rfl⟩ hA hS (fun g4269 ac w hS hA => ?_) rfl rfl rfl rfl rfl rfl
      obtain ⟨h4270, hF⟩ := chk_some hF
      have hr := hS.rd 0 rfl
      refine x_app 1 inf30 Try.underlying25 hA hS hr.1 hr.2.1 h4270 rfl (fun A4271 n4272 c4273 ac w hS hA => ?_) rfl rfl rfl rfl rfl rfl rfl rfl rfl
      refine x_assign hA (fun ac hA => ?_) rfl rfl rfl rfl rfl
      refine wpList_nil ?_
      refine hK4265 _ _ ?_
      refine wp_reg ?_
      refine x_move hA (fun ac hA => ?_) rfl rfl rfl rfl rfl
      refine x_move hA (fun ac hA => ?_) rfl rfl rfl rfl rfl
      refine x_move hA (fun ac hA => ?_) rfl rfl rfl rfl rfl
      obtain ⟨l4274, h4275, hF⟩ := bnd hF
      refine x_val hA (r_slice_l Try.underlying25 sz30 rfl (hA.ev rfl) (hA.ev rfl) (cutq (hS.rd 2 rfl) h4275).1 (cutq (hS.rd 2 rfl) h4275).2.2.2.2.2) (fun ac hA => ?_) rfl rfl rfl
      obtain ⟨h4276, hF⟩ := chk_some hF
      have hr := rq_l (hS.rd 2 rfl) h4275
      refine x_app 0 inf30 Try.underlying25 hA hS hr.1 hr.2.1 h4276 rfl (fun A4277 n4278 c4279 ac w hS hA => ?_) rfl rfl rfl rfl rfl rfl rfl rfl rfl
      refine x_assign hA (fun ac hA => ?_) rfl rfl rfl rfl rfl
      refine wpList_nil ?_
      refine hKx4018 _ _ ?_
      refine hK4017 _ _ ?_
      refine wp_reg ?_
      refine x_move hA (fun ac hA => ?_) rfl rfl rfl rfl rfl
      refine x_val hA (r_add rfl (hA.ev rfl) (hA.ev rfl)) (fun ac hA => ?_) rfl rfl rfl
      refine x_assign hA (fun ac hA => ?_) rfl rfl rfl rfl rfl
      refine wpList_nil ?_
      replace hS := hS.drop 1
      replace hS := hS.drop 1
      cases hF
      exact ⟨_, N4012_ _ rfl, A4277, n4278, c4279, hA.sub _ rfl, hS⟩
    obtain ⟨t4331, hl4331, hF⟩ := bnd hF
    have hx4331_2 : ∀ (x4331 : Int), (x4331) = t4331 → ∀ (ac : Act) (w : World), FR 49 [] ac [(0, .slice A0 n0 c0), (3, .slice A3656 n3657 c3658), (4, .int .i64 x3659), (5, .int .i64 x4331)] → SH r (own k30 30 A3656 n3657 c3658 l3655 :: L) w → Kx4178 ac w := by
      intro x4331 ht ac w hA hS
      subst ht
      replace hF : r06_Sort_x2_2 a0 l3655 x3659 x4331 = some o4012 := hF
      unfold r06_Sort_x2_2 at hF
      exact hb2 x4331 hF ac w (hA.sub _ rfl) hS
    refine wp_loop_fn hl4331 (fun s ac w => FR 49 [] ac [(0, .slice A0 n0 c0), (3, .slice A3656 n3657 c3658), (4, .int .i64 x3659), (5, .int .i64 s)] ∧ SH r (own k30 30 A3656 n3657 c3658 l3655 :: L) w) ⟨hA.sub _ rfl, hS⟩ ?_
    intro N4331 s4331 o4331 hF N4331_ T4331_ ac w hLab
    obtain ⟨x4305, rfl⟩ : ∃ q, q = s4331 := ⟨_, rfl⟩
    replace hF : r06_Sort_l2 a0 l3655 x3659 x4305 = some o4331 := hF
    unfold r06_Sort_l2 at hF
    try dsimp only at hLab
    obtain ⟨hA, hS⟩ := hLab
    refine wp_seq_k fun K4333 hK4333 => ?_
    refine wp_seq_k fun K4334 hK4334 => ?_
    have hj1 : ∀ (b4344 : Bool), r06_Sort_j1 x4305 b4344 = some o4331 → ∀ (ac : Act) (w : World), FR 49 [] ac [(0, .slice A0 n0 c0), (3, .slice A3656 n3657 c3658), (4, .int .i64 x3659), (5, .int .i64 x4305), (28, .bool b4344)] → SH r (own k30 30 A3656 n3657 c3658 l3655 :: L) w → K4334 ac w := by
      intro b4344 hF ac w hA hS
      unfold r06_Sort_j1 at hF
      refine hK4334 _ _ ?_
      refine c_if hA rfl (fun hb4345 => ?_) fun hb4345 => ?_
      · replace hF := ift hb4345 hF
        refine wp_skip ?_
        refine hK4333 _ _ ?_
        refine wp_block_k fun Kx4346 hKx4346 => ?_
        refine wp_reg ?_
        refine x_move hA (fun ac hA => ?_) rfl rfl rfl rfl rfl
        refine x_val hA (r_sub rfl (hA.ev rfl) (hA.ev rfl)) (fun ac hA => ?_) rfl rfl rfl
        refine x_assign hA (fun ac hA => ?_) rfl rfl rfl rfl rfl
        refine wpList_nil ?_
        refine hKx4346 _ _ ?_
        cases hF
        exact ⟨_, N4331_ _ rfl, hA.sub _ rfl, hS⟩
      replace hF := iff' hb4345 hF
      refine wp_exit ?_
      cases hF
      exact hx4331_2 x4305 (T4331_ _ rfl) ac w (hA.sub _ rfl) hS
    refine wp_draw [0, 1, 3, 7, 7, 31, 63, 7, 7, 263, 903, 1927, 4095, 8191] [12] rfl hA hS (by kernel_rfl) (by kernel_rfl) (by kernel_rfl) (by kernel_rfl) fun w hS => ?_
    refine bcase (b := decide (0 < x4305)) (fun hb4347 => ?_) fun hb4347 => ?_
    · replace hF := ift hb4347 hF
      obtain ⟨x4348, h4349, hF⟩ := bnd hF
      obtain ⟨cs, hV, hc4350⟩ := el (hS.rdl 1 ha0 rfl) h4349
      obtain rfl := hV
      obtain ⟨x4351, h4352, hF⟩ := bnd hF
      obtain ⟨cs, hV, hc4353⟩ := el (hS.rd 0 rfl) h4352
      obtain rfl := hV
      refine ⟨[(0, .int .i64 x4305), (1, .bool (decide (0 < x4305))), (2, .bool (decide (0 < x4305))), (3, .slice A0 n0 c0), (4, .int .i64 x3659), (5, .pointer (some (ea A0 (x3659.toNat * 5)))), (6, .agg #[.int .u64 x4348.f0, .int .i64 x4348.f1, .int .i64 x4348.f2, str x4348.f3, .float .f64 x4348.f4]), (7, .slice A3656 n3657 c3658), (8, .int .i64 x4305), (9, .int .i64 (IntKind.i64.wrap (x4305 - 1))), (10, .pointer (some (ea A3656 ((IntKind.i64.wrap (x4305 - 1)).toNat * 5)))), (11, .agg #[.int .u64 x4351.f0, .int .i64 x4351.f1, .int .i64 x4351.f2, str x4351.f3, .float .f64 x4351.f4])], ?_⟩
      refine dEff [0, 1, 2, 3, 4, 5, 6, 7, 8, 9, 10, 11] [12] (by kernel_rfl) ⟨pu rfl rfl [(5, .int .i64 x4305)] (fun ac hA => y_move hA rfl rfl) rfl rfl, pu rfl rfl [(15, .int .i64 x4305)] (fun ac hA => r_gtI rfl (hA.ev rfl) (hA.ev rfl)) rfl rfl, pu rfl rfl [(16, .bool (decide (0 < x4305)))] (fun ac hA => y_move hA rfl rfl) rfl rfl, puOn rfl rfl rfl rfl [(0, .slice A0 n0 c0), (17, .bool (decide (0 < x4305)))] rfl hb4347 (fun ac hA => y_move hA rfl rfl) rfl, puOn rfl rfl rfl rfl [(4, .int .i64 x3659), (17, .bool (decide (0 < x4305)))] rfl hb4347 (fun ac hA => y_move hA rfl rfl) rfl, puOn rfl rfl rfl rfl [(17, .bool (decide (0 < x4305))), (18, .slice A0 n0 c0), (19, .int .i64 x3659)] rfl hb4347 (fun ac hA => y_ia Try.underlying25 sz30 (hS.rdl 1 ha0 rfl) h4349 hA rfl rfl rfl) rfl, puOn rfl rfl rfl rfl [(17, .bool (decide (0 < x4305))), (20, .pointer (some (ea A0 (x3659.toNat * 5))))] rfl hb4347 (fun ac hA => y_lda (cs := [.int .u64 x4348.f0, .int .i64 x4348.f1, .int .i64 x4348.f2, str x4348.f3, .float .f64 x4348.f4]) Try.underlying30 sz30 (fun j u h => by rw [ea_add]; exact hc4350 _ _ h) hA rfl rfl rfl) rfl, puOn rfl rfl rfl rfl [(3, .slice A3656 n3657 c3658), (17, .bool (decide (0 < x4305)))] rfl hb4347 (fun ac hA => y_move hA rfl rfl) rfl, puOn rfl rfl rfl rfl [(5, .int .i64 x4305), (17, .bool (decide (0 < x4305)))] rfl hb4347 (fun ac hA => y_move hA rfl rfl) rfl, puOn rfl rfl rfl rfl [(17, .bool (decide (0 < x4305))), (23, .int .i64 x4305)] rfl hb4347 (fun ac hA => r_sub rfl (hA.ev rfl) (hA.ev rfl)) rfl, puOn rfl rfl rfl rfl [(17, .bool (decide (0 < x4305))), (22, .slice A3656 n3657 c3658), (24, .int .i64 (IntKind.i64.wrap (x4305 - 1)))] rfl hb4347 (fun ac hA => y_ia Try.underlying25 sz30 (hS.rd 0 rfl) h4352 hA rfl rfl rfl) rfl, puOn rfl rfl rfl rfl [(17, .bool (decide (0 < x4305))), (25, .pointer (some (ea A3656 ((IntKind.i64.wrap (x4305 - 1)).toNat * 5))))] rfl hb4347 (fun ac hA => y_lda (cs := [.int .u64 x4351.f0, .int .i64 x4351.f1, .int .i64 x4351.f2, str x4351.f3, .float .f64 x4351.f4]) Try.underlying30 sz30 (fun j u h => by rw [ea_add]; exact hc4353 _ _ h) hA rfl rfl rfl) rfl, trivial⟩ (by kernel_rfl) (by kernel_rfl) ⟨efOn rfl rfl rfl [(17, .bool (decide (0 < x4305))), (21, .agg #[.int .u64 x4348.f0, .int .i64 x4348.f1, .int .i64 x4348.f2, str x4348.f3, .float .f64 x4348.f4]), (26, .agg #[.int .u64 x4351.f0, .int .i64 x4351.f1, .int .i64 x4351.f2, str x4351.f3, .float .f64 x4351.f4])] rfl hb4347 (fun ac hA K hK => ?_) rfl, trivial⟩
      obtain ⟨y4354, h4355, hF⟩ := bnd hF
      refine z_call en12 hA (F_r06_Before (L := own k30 30 A3656 n3657 c3658 l3655 :: L) x4348 x4351 h4355 hS) (fun v w hR => ?_) rfl rfl
      obtain ⟨rfl, hS⟩ := hR
      refine hK _ [(13, .bool y4354)] _ rfl ?_
      refine dEnd [13] (by kernel_rfl) ⟨pu rfl rfl [(17, .bool (decide (0 < x4305))), (27, .bool y4354)] (fun ac hA => y_pickt hb4347 hA rfl rfl rfl) rfl rfl, trivial⟩ ⟨by kernel_rfl, by kernel_rfl⟩ [(0, .slice A0 n0 c0), (3, .slice A3656 n3657 c3658), (4, .int .i64 x3659), (5, .int .i64 x4305), (18, .slice A0 n0 c0), (19, .int .i64 x3659), (21, .agg #[.int .u64 x4348.f0, .int .i64 x4348.f1, .int .i64 x4348.f2, str x4348.f3, .float .f64 x4348.f4]), (22, .slice A3656 n3657 c3658), (23, .int .i64 x4305), (24, .int .i64 (IntKind.i64.wrap (x4305 - 1))), (26, .agg #[.int .u64 x4351.f0, .int .i64 x4351.f1, .int .i64 x4351.f2, str x4351.f3, .float .f64 x4351.f4]), (27, .bool y4354), (28, .bool y4354)] rfl (fun ac hA => ?_)
      exact hj1 y4354 hF ac w (hA.sub _ rfl) hS
    replace hF := iff' hb4347 hF
    refine ⟨[(0, .int .i64 x4305), (1, .bool (decide (0 < x4305))), (2, .bool (decide (0 < x4305))), (3, undef), (4, undef), (5, undef), (6, undef), (7, undef), (8, undef), (9, undef), (10, undef), (11, undef)], ?_⟩
    refine dEff [0, 1, 2, 3, 4, 5, 6, 7, 8, 9, 10, 11] [12] (by kernel_rfl) ⟨pu rfl rfl [(5, .int .i64 x4305)] (fun ac hA => y_move hA rfl rfl) rfl rfl, pu rfl rfl [(15, .int .i64 x4305)] (fun ac hA => r_gtI rfl (hA.ev rfl) (hA.ev rfl)) rfl rfl, pu rfl rfl [(16, .bool (decide (0 < x4305)))] (fun ac hA => y_move hA rfl rfl) rfl rfl, puOff rfl rfl rfl rfl [(0, .slice A0 n0 c0), (17, .bool (decide (0 < x4305)))] rfl hb4347 rfl, puOff rfl rfl rfl rfl [(4, .int .i64 x3659), (17, .bool (decide (0 < x4305)))] rfl hb4347 rfl, puOff rfl rfl rfl rfl [(17, .bool (decide (0 < x4305))), (18, undef), (19, undef)] rfl hb4347 rfl, puOff rfl rfl rfl rfl [(17, .bool (decide (0 < x4305))), (20, undef)] rfl hb4347 rfl, puOff rfl rfl rfl rfl [(3, .slice A3656 n3657 c3658), (17, .bool (decide (0 < x4305)))] rfl hb4347 rfl, puOff rfl rfl rfl rfl [(5, .int .i64 x4305), (17, .bool (decide (0 < x4305)))] rfl hb4347 rfl, puOff rfl rfl rfl rfl [(17, .bool (decide (0 < x4305))), (23, undef)] rfl hb4347 rfl, puOff rfl rfl rfl rfl [(17, .bool (decide (0 < x4305))), (22, undef), (24, undef)] rfl hb4347 rfl, puOff rfl rfl rfl rfl [(17, .bool (decide (0 < x4305))), (25, undef)] rfl hb4347 rfl, trivial⟩ (by kernel_rfl) (by kernel_rfl) ⟨?_, trivial⟩
    refine efOff rfl rfl rfl [(17, .bool (decide (0 < x4305))), (21, undef), (26, undef)] rfl [(13, .bool false)] hb4347 rfl ?_ rfl
    refine dEnd [13] (by kernel_rfl) ⟨pu rfl rfl [(17, .bool (decide (0 < x4305))), (27, undef)] (fun ac hA => y_pickf hb4347 hA rfl rfl rfl) rfl rfl, trivial⟩ ⟨by kernel_rfl, by kernel_rfl⟩ [(0, .slice A0 n0 c0), (3, .slice A3656 n3657 c3658), (4, .int .i64 x3659), (5, .int .i64 x4305), (28, .bool false)] rfl (fun ac hA => ?_)
    exact hj1 false hF ac w (hA.sub _ rfl) hS
  replace hF := iff' hb4016 hF
  refine wp_exit ?_
  cases hF
  exact hx4012_0 l3655 (T4012_ _ rfl) A3656 n3657 c3658 ac w (hA.sub _ rfl) hS
end Go.Proofs.Ytpanacifejpjhaa.M
