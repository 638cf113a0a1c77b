/- The calls come to the plain functions. -/
import Derived.Test.YthokgnonmcgkcaaMe
import Derived.Test.YthokgnonmcgkcaaDf
namespace Go.Proofs.Ythokgnonmcgkcaa.M
open Go Go.RowKit Go.Proofs.Ythokgnonmcgkcaa.E
set_option linter.unusedVariables false
set_option linter.unusedSimpArgs false

set_option maxHeartbeats 4000000 in
theorem F_math_IsNaN {r : World} {L : List HP} {w : World} (a0 : Nat) {y : (Bool)} (hF : math_IsNaN a0 = some y) (hS : SH r (L) w) :
    Ret Try.prog 74 #[.float .f64 a0] w fun v w' => v = .bool y ∧ SH r (L) w' := by
  refine enter Try.func74 rfl Try.ntmps74 [(0, .float .f64 a0)] rfl (by simp) ?_
  intro ac hA Qf hQ hQn
  unfold math_IsNaN at hF
  refine wp_seq_k fun K101 hK101 => ?_
  refine wp_reg ?_
  refine x_assign hA (fun ac hA => ?_) rfl rfl rfl rfl rfl
  refine wpList_nil ?_
  refine hK101 _ _ ?_
  refine wp_seq_k fun K102 hK102 => ?_
  refine wp_reg ?_
  refine x_move hA (fun ac hA => ?_) rfl rfl rfl rfl rfl
  refine x_move hA (fun ac hA => ?_) rfl rfl rfl rfl rfl
  refine x_val hA (r_neF rfl (hA.ev rfl) (hA.ev rfl)) (fun ac hA => ?_) rfl rfl rfl
  refine x_assign hA (fun ac hA => ?_) rfl rfl rfl rfl rfl
  refine wpList_nil ?_
  refine hK102 _ _ ?_
  refine wp_ret ?_
  cases hF
  refine hQ _ _ ?_
  refine lv Try.results74 hA rfl ?_
  exact ⟨rfl, hS⟩

set_option maxHeartbeats 4000000 in
theorem F_real_Canon {r : World} {L : List HP} {w : World} (a0 : Nat) {y : (Nat)} (hF : real_Canon a0 = some y) (hS : SH r (L) w) :
    Ret Try.prog 66 #[.float .f64 a0] w fun v w' => v = .float .f64 y ∧ SH r (L) w' := by
  refine enter Try.func66 rfl Try.ntmps66 [(0, .float .f64 a0)] rfl (by simp) ?_
  intro ac hA Qf hQ hQn
  unfold real_Canon at hF
  refine wp_seq_k fun K101 hK101 => ?_
  refine wp_reg ?_
  refine x_assign hA (fun ac hA => ?_) rfl rfl rfl rfl rfl
  refine wpList_nil ?_
  refine hK101 _ _ ?_
  refine wp_seq_k fun K102 hK102 => ?_
  refine wp_seq_k fun K103 hK103 => ?_
  refine wp_reg ?_
  refine x_move hA (fun ac hA => ?_) rfl rfl rfl rfl rfl
  obtain ⟨y104, h105, hF⟩ := bnd hF
  refine x_call en74 hA (F_math_IsNaN (L := L) a0 h105 hS) (fun v ac w hR hA => ?_) rfl rfl rfl rfl rfl
  obtain ⟨rfl, hS⟩ := hR
  refine wpList_nil ?_
  refine hK103 _ _ ?_
  refine c_if hA rfl (fun hb106 => ?_) fun hb106 => ?_
  · replace hF := ift hb106 hF
    refine wp_seq_k fun K107 hK107 => ?_
    refine wp_reg ?_
    refine x_val hA (r_ext (ex67 _) rfl (evs hA rfl)) (fun ac hA => ?_) rfl rfl rfl
    refine x_assign hA (fun ac hA => ?_) rfl rfl rfl rfl rfl
    refine wpList_nil ?_
    refine hK107 _ _ ?_
    refine wp_ret ?_
    cases hF
    refine hQ _ _ ?_
    refine lv Try.results66 hA rfl ?_
    exact ⟨rfl, hS⟩
  replace hF := iff' hb106 hF
  refine wp_skip ?_
  refine hK102 _ _ ?_
  refine wp_seq_k fun K108 hK108 => ?_
  refine wp_reg ?_
  refine x_move hA (fun ac hA => ?_) rfl rfl rfl rfl rfl
  refine x_assign hA (fun ac hA => ?_) rfl rfl rfl rfl rfl
  refine wpList_nil ?_
  refine hK108 _ _ ?_
  refine wp_ret ?_
  cases hF
  refine hQ _ _ ?_
  refine lv Try.results66 hA rfl ?_
  exact ⟨rfl, hS⟩

set_option maxHeartbeats 4000000 in
theorem F_real_Bits {r : World} {L : List HP} {w : World} (a0 : Nat) {y : (Int)} (hF : real_Bits a0 = some y) (hS : SH r (L) w) :
    Ret Try.prog 48 #[.float .f64 a0] w fun v w' => v = .int .u64 y ∧ SH r (L) w' := by
  refine enter Try.func48 rfl Try.ntmps48 [(0, .float .f64 a0)] rfl (by simp) ?_
  intro ac hA Qf hQ hQn
  unfold real_Bits at hF
  refine wp_seq_k fun K101 hK101 => ?_
  refine wp_reg ?_
  refine x_assign hA (fun ac hA => ?_) rfl rfl rfl rfl rfl
  refine wpList_nil ?_
  refine hK101 _ _ ?_
  refine wp_seq_k fun K102 hK102 => ?_
  refine wp_reg ?_
  refine x_move hA (fun ac hA => ?_) rfl rfl rfl rfl rfl
  obtain ⟨y103, h104, hF⟩ := bnd hF
  refine x_call en66 hA (F_real_Canon (L := L) a0 h104 hS) (fun v ac w hR hA => ?_) rfl rfl rfl rfl rfl
  obtain ⟨rfl, hS⟩ := hR
  refine x_val hA (r_ext (ex65 _) rfl (evs hA rfl)) (fun ac hA => ?_) rfl rfl rfl
  refine x_assign hA (fun ac hA => ?_) rfl rfl rfl rfl rfl
  refine wpList_nil ?_
  refine hK102 _ _ ?_
  refine wp_ret ?_
  cases hF
  refine hQ _ _ ?_
  refine lv Try.results48 hA rfl ?_
  exact ⟨rfl, hS⟩

set_option maxHeartbeats 4000000 in
theorem F_real_Of {r : World} {L : List HP} {w : World} (a0 : Int) {y : (Nat)} (hF : real_Of a0 = some y) (hS : SH r (L) w) :
    Ret Try.prog 49 #[.int .u64 a0] w fun v w' => v = .float .f64 y ∧ SH r (L) w' := by
  refine enter Try.func49 rfl Try.ntmps49 [(0, .int .u64 a0)] rfl (by simp) ?_
  intro ac hA Qf hQ hQn
  unfold real_Of at hF
  refine wp_seq_k fun K101 hK101 => ?_
  refine wp_reg ?_
  refine x_assign hA (fun ac hA => ?_) rfl rfl rfl rfl rfl
  refine wpList_nil ?_
  refine hK101 _ _ ?_
  refine wp_seq_k fun K102 hK102 => ?_
  refine wp_reg ?_
  refine x_move hA (fun ac hA => ?_) rfl rfl rfl rfl rfl
  refine x_val hA (r_ext (ex67 _) rfl (evs hA rfl)) (fun ac hA => ?_) rfl rfl rfl
  obtain ⟨y103, h104, hF⟩ := bnd hF
  refine x_call en66 hA (F_real_Canon (L := L) a0.toNat h104 hS) (fun v ac w hR hA => ?_) rfl rfl rfl rfl rfl
  obtain ⟨rfl, hS⟩ := hR
  refine x_assign hA (fun ac hA => ?_) rfl rfl rfl rfl rfl
  refine wpList_nil ?_
  refine hK102 _ _ ?_
  refine wp_ret ?_
  cases hF
  refine hQ _ _ ?_
  refine lv Try.results49 hA rfl ?_
  exact ⟨rfl, hS⟩

set_option maxHeartbeats 4000000 in
theorem F_r01_Bits {r : World} {L : List HP} {w : World} (a0 : Nat) {y : (Int)} (hF : r01_Bits a0 = some y) (hS : SH r (L) w) :
    Ret Try.prog 50 #[.float .f64 a0] w fun v w' => v = .int .u64 y ∧ SH r (L) w' := by
  refine enter Try.func50 rfl Try.ntmps50 [(0, .float .f64 a0)] rfl (by simp) ?_
  intro ac hA Qf hQ hQn
  unfold r01_Bits at hF
  refine wp_seq_k fun K101 hK101 => ?_
  refine wp_reg ?_
  refine x_assign hA (fun ac hA => ?_) rfl rfl rfl rfl rfl
  refine wpList_nil ?_
  refine hK101 _ _ ?_
  refine wp_seq_k fun K102 hK102 => ?_
  refine wp_reg ?_
  refine x_move hA (fun ac hA => ?_) rfl rfl rfl rfl rfl
  refine x_val hA (r_ext (ex65 _) rfl (evs hA rfl)) (fun ac hA => ?_) rfl rfl rfl
  refine x_assign hA (fun ac hA => ?_) rfl rfl rfl rfl rfl
  refine wpList_nil ?_
  refine hK102 _ _ ?_
  refine wp_seq_k fun K103 hK103 => ?_
  refine wp_seq_k fun K104 hK104 => ?_
  have hj1 : ∀ (b112 : Bool), r01_Bits_j1 a0 b112 = some y → ∀ (ac : Act) (w : World), FR 16 [] ac [(3, .int .u64 (a0 : Int)), (14, .bool b112)] → SH r (L) w → K104 ac w := by
    intro b112 hF ac w hA hS
    unfold r01_Bits_j1 at hF
    refine hK104 _ _ ?_
    refine c_if hA rfl (fun hb113 => ?_) fun hb113 => ?_
    · replace hF := ift hb113 hF
      refine wp_seq_k fun K114 hK114 => ?_
      refine wp_reg ?_
      refine x_assign hA (fun ac hA => ?_) rfl rfl rfl rfl rfl
      refine wpList_nil ?_
      refine hK114 _ _ ?_
      refine wp_ret ?_
      cases hF
      refine hQ _ _ ?_
      refine lv Try.results50 hA rfl ?_
      exact ⟨rfl, hS⟩
    replace hF := iff' hb113 hF
    refine wp_skip ?_
    refine hK103 _ _ ?_
    refine wp_seq_k fun K115 hK115 => ?_
    refine wp_reg ?_
    refine x_move hA (fun ac hA => ?_) rfl rfl rfl rfl rfl
    refine x_assign hA (fun ac hA => ?_) rfl rfl rfl rfl rfl
    refine wpList_nil ?_
    refine hK115 _ _ ?_
    refine wp_ret ?_
    cases hF
    refine hQ _ _ ?_
    refine lv Try.results50 hA rfl ?_
    exact ⟨rfl, hS⟩
  refine wp_reg ?_
  refine x_move hA (fun ac hA => ?_) rfl rfl rfl rfl rfl
  obtain ⟨x116, h117, hF⟩ := ltt_ hF
  refine x_val (v := .int .u64 x116) hA (rv_i h117 (r_shr rfl (hA.ev rfl) (hA.ev rfl) (by decide))) (fun ac hA => ?_) rfl rfl rfl
  obtain ⟨x118, h119, hF⟩ := ltt_ hF
  refine x_val (v := .int .u64 x118) hA (rv_i h119 (r_rem rfl (hA.ev rfl) (hA.ev rfl) (by decide))) (fun ac hA => ?_) rfl rfl rfl
  refine x_val hA (r_eqI rfl (hA.ev rfl) (hA.ev rfl)) (fun ac hA => ?_) rfl rfl rfl
  refine x_move hA (fun ac hA => ?_) rfl rfl rfl rfl rfl
  refine bcase (b := x118 == 2047) (fun hb120 => ?_) fun hb120 => ?_
  · replace hF := ift hb120 hF
    refine x_on hb120 hA ?_ rfl rfl rfl
    refine x_move hA (fun ac hA => ?_) rfl rfl rfl rfl rfl
    refine x_on hb120 hA ?_ rfl rfl rfl
    obtain ⟨x121, h122, hF⟩ := ltt_ hF
    refine x_val (v := .int .u64 x121) hA (rv_i h122 (r_rem rfl (hA.ev rfl) (hA.ev rfl) (by decide))) (fun ac hA => ?_) rfl rfl rfl
    refine x_on hb120 hA ?_ rfl rfl rfl
    refine x_val hA (r_neI rfl (hA.ev rfl) (hA.ev rfl)) (fun ac hA => ?_) rfl rfl rfl
    refine x_pickt hb120 hA (fun ac hA => ?_) rfl rfl rfl rfl rfl rfl
    refine wpList_nil ?_
    exact hj1 (x121 != 0) hF ac w (hA.sub _ rfl) hS
  replace hF := iff' hb120 hF
  refine x_off hb120 hA (fun ac hA => ?_) rfl rfl rfl rfl rfl
  refine x_off hb120 hA (fun ac hA => ?_) rfl rfl rfl rfl rfl
  refine x_off hb120 hA (fun ac hA => ?_) rfl rfl rfl rfl rfl
  refine x_pickf hb120 hA (fun ac hA => ?_) rfl rfl rfl rfl rfl rfl
  refine wpList_nil ?_
  exact hj1 false hF ac w (hA.sub _ rfl) hS

set_option maxHeartbeats 4000000 in
theorem F_r01_Of {r : World} {L : List HP} {w : World} (a0 : Int) {y : (Nat)} (hF : r01_Of a0 = some y) (hS : SH r (L) w) :
    Ret Try.prog 54 #[.int .u64 a0] w fun v w' => v = .float .f64 y ∧ SH r (L) w' := by
  refine enter Try.func54 rfl Try.ntmps54 [(0, .int .u64 a0)] rfl (by simp) ?_
  intro ac hA Qf hQ hQn
  unfold r01_Of at hF
  refine wp_seq_k fun K101 hK101 => ?_
  refine wp_reg ?_
  refine x_assign hA (fun ac hA => ?_) rfl rfl rfl rfl rfl
  refine wpList_nil ?_
  refine hK101 _ _ ?_
  refine wp_seq_k fun K102 hK102 => ?_
  refine wp_reg ?_
  refine x_move hA (fun ac hA => ?_) rfl rfl rfl rfl rfl
  refine x_val hA (r_ext (ex67 _) rfl (evs hA rfl)) (fun ac hA => ?_) rfl rfl rfl
  obtain ⟨y103, h104, hF⟩ := bnd hF
  refine x_call en50 hA (F_r01_Bits (L := L) a0.toNat h104 hS) (fun v ac w hR hA => ?_) rfl rfl rfl rfl rfl
  obtain ⟨rfl, hS⟩ := hR
  refine x_val hA (r_ext (ex67 _) rfl (evs hA rfl)) (fun ac hA => ?_) rfl rfl rfl
  refine x_assign hA (fun ac hA => ?_) rfl rfl rfl rfl rfl
  refine wpList_nil ?_
  refine hK102 _ _ ?_
  refine wp_ret ?_
  cases hF
  refine hQ _ _ ?_
  refine lv Try.results54 hA rfl ?_
  exact ⟨rfl, hS⟩

set_option maxHeartbeats 4000000 in
theorem F_r01_Same {r : World} {L : List HP} {w : World} (a0 : Nat) (a1 : Nat) {y : (Bool)} (hF : r01_Same a0 a1 = some y) (hS : SH r (L) w) :
    Ret Try.prog 31 #[.float .f64 a0, .float .f64 a1] w fun v w' => v = .bool y ∧ SH r (L) w' := by
  refine enter Try.func31 rfl Try.ntmps31 [(0, .float .f64 a0), (1, .float .f64 a1)] rfl (by simp) ?_
  intro ac hA Qf hQ hQn
  unfold r01_Same at hF
  refine wp_seq_k fun K101 hK101 => ?_
  refine wp_reg ?_
  refine x_assign hA (fun ac hA => ?_) rfl rfl rfl rfl rfl
  refine wpList_nil ?_
  refine hK101 _ _ ?_
  refine wp_seq_k fun K102 hK102 => ?_
  refine wp_reg ?_
  refine x_move hA (fun ac hA => ?_) rfl rfl rfl rfl rfl
  obtain ⟨y103, h104, hF⟩ := bnd hF
  refine x_call en50 hA (F_r01_Bits (L := L) a0 h104 hS) (fun v ac w hR hA => ?_) rfl rfl rfl rfl rfl
  obtain ⟨rfl, hS⟩ := hR
  refine x_move hA (fun ac hA => ?_) rfl rfl rfl rfl rfl
  obtain ⟨y105, h106, hF⟩ := bnd hF
  refine x_call en50 hA (F_r01_Bits (L := L) a1 h106 hS) (fun v ac w hR hA => ?_) rfl rfl rfl rfl rfl
  obtain ⟨rfl, hS⟩ := hR
  refine x_val hA (r_eqI rfl (hA.ev rfl) (hA.ev rfl)) (fun ac hA => ?_) rfl rfl rfl
  refine x_assign hA (fun ac hA => ?_) rfl rfl rfl rfl rfl
  refine wpList_nil ?_
  refine hK102 _ _ ?_
  refine wp_ret ?_
  cases hF
  refine hQ _ _ ?_
  refine lv Try.results31 hA rfl ?_
  exact ⟨rfl, hS⟩

set_option maxHeartbeats 4000000 in
theorem F_column_Reals {r : World} {L : List HP} {w : World} (a0 : (List Nat)) (A0 : Option Addr) (n0 : Nat) (c0 : Nat) {y : ((List Int))} (hF : column_Reals a0 = some y) (ha0 : RdL L kF A0 n0 c0 a0) (hS : SH r (L) w) :
    Ret Try.prog 28 #[.slice A0 n0 c0] w fun v w' => ∃ (B0 : Option Addr) (m0 : Nat) (d0 : Nat), v = .slice B0 m0 d0 ∧ SH r (own (kI .u8) 5 B0 m0 d0 y :: L) w' := by
  refine enter Try.func28 rfl Try.ntmps28 [(0, .slice A0 n0 c0)] rfl (by simp) ?_
  intro ac hA Qf hQ hQn
  unfold column_Reals at hF
  refine wp_seq_k fun K101 hK101 => ?_
  refine wp_reg ?_
  refine x_assign hA (fun ac hA => ?_) rfl rfl rfl rfl rfl
  refine wpList_nil ?_
  refine hK101 _ _ ?_
  refine wp_seq_k fun K102 hK102 => ?_
  refine wp_reg ?_
  refine x_assign hA (fun ac hA => ?_) rfl rfl rfl rfl rfl
  refine wpList_nil ?_
  refine hK102 _ _ ?_
  refine wp_seq_k fun K103 hK103 => ?_
  refine wp_seq_k fun K287 hK287 => ?_
  refine wp_reg ?_
  refine x_move hA (fun ac hA => ?_) rfl rfl rfl rfl rfl
  refine x_len Try.underlying48 (hS.rdl 0 ha0 rfl).2.1 hA (fun ac hA => ?_) rfl rfl rfl rfl rfl
  refine x_move hA (fun ac hA => ?_) rfl rfl rfl rfl rfl
  refine wpList_nil ?_
  refine hK287 _ _ ?_
  refine wp_block_k fun Kx288 hKx288 => ?_
  have hb1 : ∀ (l377 : (List Int)), column_Reals_b1 l377 = some y → ∀ (A378 : Option Addr) (n379 : Nat) (c380 : Nat) (ac : Act) (w : World), FR 21 [] ac [(3, .slice A378 n379 c380)] → SH r (own (kI .i64) 2 A378 n379 c380 l377 :: L) w → Kx288 ac w := by
    intro l377 hF A378 n379 c380 ac w hA hS
    unfold column_Reals_b1 at hF
    refine hKx288 _ _ ?_
    refine hK103 _ _ ?_
    refine wp_seq_k fun K381 hK381 => ?_
    refine wp_reg ?_
    refine x_move hA (fun ac hA => ?_) rfl rfl rfl rfl rfl
    obtain ⟨y382, h383, hF⟩ := bnd hF
    refine x_call en22 hA (F_column_Ints (L := own (kI .i64) 2 A378 n379 c380 l377 :: L) l377 A378 n379 c380 h383 (RdL.own 0 rfl (hS.dropN 0)) hS) (fun v ac w hR hA => ?_) rfl rfl rfl rfl rfl
    obtain ⟨B384, m385, d386, rfl, hS⟩ := hR
    refine x_assign hA (fun ac hA => ?_) rfl rfl rfl rfl rfl
    refine wpList_nil ?_
    refine hK381 _ _ ?_
    refine wp_ret ?_
    replace hS := hS.drop 1
    cases hF
    refine hQ _ _ ?_
    refine lv Try.results28 hA rfl ?_
    exact ⟨B384, m385, d386, rfl, hS⟩
  obtain ⟨t453, hl453, hF⟩ := bnd hF
  have hx453_0 : ∀ (l450 : (List Int)), (l450) = t453 → ∀ (A451 : Option Addr) (n452 : Nat) (c453 : Nat) (ac : Act) (w : World), FR 21 [] ac [(3, .slice A451 n452 c453)] → SH r (own (kI .i64) 2 A451 n452 c453 l450 :: L) w → Kx288 ac w := by
    intro l450 ht A451 n452 c453 ac w hA hS
    subst ht
    replace hF : column_Reals_x1_0 l450 = some y := hF
    unfold column_Reals_x1_0 at hF
    exact hb1 l450 hF A451 n452 c453 ac w (hA.sub _ rfl) hS
  replace hS := SH.nil_own (d := (kI .i64)) (e := 2) hS
  refine wp_loop_fn hl453 (fun s ac w => ∃ (A421 : Option Addr) (n422 : Nat) (c423 : Nat), FR 21 [] ac [(3, .slice A421 n422 c423), (6, .slice A0 n0 c0), (7, .int .i64 (a0.length : Int)), (8, .int .i64 s.2)] ∧ SH r (own (kI .i64) 2 A421 n422 c423 s.1 :: L) w) ⟨none, 0, 0, hA.sub _ rfl, hS⟩ ?_
  intro N453 s453 o453 hF N453_ T453_ ac w hLab
  obtain ⟨l420, x424⟩ := s453
  replace hF : column_Reals_l1 a0 l420 x424 = some o453 := hF
  unfold column_Reals_l1 at hF
  try dsimp only at hLab
  obtain ⟨A421, n422, c423, hA, hS⟩ := hLab
  refine wp_seq_k fun K455 hK455 => ?_
  refine wp_reg ?_
  refine x_val hA (r_ltI rfl (hA.ev rfl) (hA.ev rfl)) (fun ac hA => ?_) rfl rfl rfl
  refine wpList_nil ?_
  refine hK455 _ _ ?_
  refine wp_seq_k fun K456 hK456 => ?_
  refine c_if hA rfl (fun hb457 => ?_) fun hb457 => ?_
  · replace hF := ift hb457 hF
    refine wp_skip ?_
    refine hK456 _ _ ?_
    refine wp_seq_k fun K458 hK458 => ?_
    refine wp_block_k fun Kx459 hKx459 => ?_
    refine wp_seq_k fun K460 hK460 => ?_
    refine wp_reg ?_
    obtain ⟨x461, h462, hF⟩ := bnd hF
    refine x_ia Try.underlying48 sz53 (hS.rdl 1 ha0 rfl) h462 hA (fun ac hA => ?_) rfl rfl rfl rfl rfl rfl
    obtain ⟨cs, hV, hc463⟩ := el (hS.rdl 1 ha0 rfl) h462
    obtain rfl := hV
    refine x_ld Try.underlying53 (hc463 0 _ rfl) hA (fun ac hA => ?_) rfl rfl rfl rfl rfl rfl
    refine x_assign hA (fun ac hA => ?_) rfl rfl rfl rfl rfl
    refine wpList_nil ?_
    refine hK460 _ _ ?_
    refine wp_reg ?_
    refine x_move hA (fun ac hA => ?_) rfl rfl rfl rfl rfl
    refine x_move hA (fun ac hA => ?_) rfl rfl rfl rfl rfl
    obtain ⟨y464, h465, hF⟩ := bnd hF
    refine x_call en48 hA (F_real_Bits (L := own (kI .i64) 2 A421 n422 c423 l420 :: L) x461 h465 hS) (fun v ac w hR hA => ?_) rfl rfl rfl rfl rfl
    obtain ⟨rfl, hS⟩ := hR
    obtain ⟨x466, h467, hF⟩ := ltt_ hF
    refine x_val (v := .int .i64 x466) hA (rv_i h467 (r_convI Try.underlying29 Try.underlying2 rfl (hA.ev rfl))) (fun ac hA => ?_) rfl rfl rfl
    refine x_bsl (d := (kI .i64)) (e := 2) (ps := #[(0, .int .i64 x466)]) (cells := [.int .i64 x466]) (xs := [x466]) (fun w => by kernel_rfl) rfl ⟨[.int .i64 x466], _, rfl, rfl, rfl⟩ hA hS (fun g468 ac w hS hA => ?_) rfl rfl rfl rfl rfl rfl
    obtain ⟨h469, hF⟩ := chk_some hF
    have hr := hS.rd 0 rfl
    refine x_app 1 inf2 Try.underlying37 hA hS hr.1 hr.2.1 h469 rfl (fun A470 n471 c472 ac w hS hA => ?_) rfl rfl rfl rfl rfl rfl rfl rfl rfl
    refine x_assign hA (fun ac hA => ?_) rfl rfl rfl rfl rfl
    refine wpList_nil ?_
    refine hKx459 _ _ ?_
    refine hK458 _ _ ?_
    refine wp_reg ?_
    obtain ⟨x473, h474, hF⟩ := ltt_ hF
    refine x_val (v := .int .i64 x473) hA (rv_i h474 (r_add rfl (hA.ev rfl) (hA.ev rfl))) (fun ac hA => ?_) rfl rfl rfl
    refine x_move hA (fun ac hA => ?_) rfl rfl rfl rfl rfl
    refine wpList_nil ?_
    replace hS := hS.drop 1
    cases hF
    exact ⟨_, N453_ _ rfl, A470, n471, c472, hA.sub _ rfl, hS⟩
  replace hF := iff' hb457 hF
  refine wp_exit ?_
  cases hF
  exact hx453_0 l420 (T453_ _ rfl) A421 n422 c423 ac w (hA.sub _ rfl) hS

set_option maxHeartbeats 4000000 in
theorem F_column_ReadReals {r : World} {L : List HP} {w : World} {Z : Nat → Prop} {wz : World} (a0 : (List Int)) (A0 : Option Addr) (n0 : Nat) (c0 : Nat) {y : ((List Nat) × Int)} (hF : column_ReadReals a0 = some y) (qz : Nat) (hZ : L[qz]? = some (zone Z wz)) (ha0 : Imm Z wz (kI .u8) A0 n0 c0 a0) (hS : SH r (L) w) :
    Ret Try.prog 29 #[.slice A0 n0 c0] w fun v w' => ∃ (B0 : Option Addr) (m0 : Nat) (d0 : Nat), v = .tuple #[(.slice B0 m0 d0), (.int .i64 y.2)] ∧ SH r (own kF 53 B0 m0 d0 y.1 :: L) w' := by
  refine enter Try.func29 rfl Try.ntmps29 [(0, .slice A0 n0 c0)] rfl (by simp) ?_
  intro ac hA Qf hQ hQn
  unfold column_ReadReals at hF
  refine wp_seq_k fun K101 hK101 => ?_
  refine wp_reg ?_
  refine x_assign hA (fun ac hA => ?_) rfl rfl rfl rfl rfl
  refine x_assign hA (fun ac hA => ?_) rfl rfl rfl rfl rfl
  refine wpList_nil ?_
  refine hK101 _ _ ?_
  refine wp_seq_k fun K102 hK102 => ?_
  refine wp_reg ?_
  refine x_move hA (fun ac hA => ?_) rfl rfl rfl rfl rfl
  obtain ⟨y103, h104, hF⟩ := bnd hF
  refine x_call en25 hA (F_column_ReadInts (L := L) a0 A0 n0 c0 h104 (qz + 0) hZ ha0 hS) (fun v ac w hR hA => ?_) rfl rfl rfl rfl rfl
  obtain ⟨B105, m106, d107, rfl, hS⟩ := hR
  refine x_move hA (fun ac hA => ?_) rfl rfl rfl rfl rfl
  refine x_val hA (r_extract rfl (hA.ev rfl) rfl) (fun ac hA => ?_) rfl rfl rfl
  refine x_val hA (r_extract rfl (hA.ev rfl) rfl) (fun ac hA => ?_) rfl rfl rfl
  refine x_assign hA (fun ac hA => ?_) rfl rfl rfl rfl rfl
  refine x_assign hA (fun ac hA => ?_) rfl rfl rfl rfl rfl
  refine wpList_nil ?_
  refine hK102 _ _ ?_
  refine wp_seq_k fun K108 hK108 => ?_
  refine wp_seq_k fun K109 hK109 => ?_
  refine wp_reg ?_
  refine x_move hA (fun ac hA => ?_) rfl rfl rfl rfl rfl
  refine x_val hA (r_neI rfl (hA.ev rfl) (hA.ev rfl)) (fun ac hA => ?_) rfl rfl rfl
  refine wpList_nil ?_
  refine hK109 _ _ ?_
  refine c_if hA rfl (fun hb110 => ?_) fun hb110 => ?_
  · replace hF := ift hb110 hF
    refine wp_seq_k fun K111 hK111 => ?_
    refine wp_reg ?_
    refine x_move hA (fun ac hA => ?_) rfl rfl rfl rfl rfl
    refine x_assign hA (fun ac hA => ?_) rfl rfl rfl rfl rfl
    refine x_assign hA (fun ac hA => ?_) rfl rfl rfl rfl rfl
    refine wpList_nil ?_
    refine hK111 _ _ ?_
    refine wp_ret ?_
    replace hS := SH.nil_own (d := kF) (e := 53) hS
    replace hS := hS.drop 1
    cases hF
    refine hQ _ _ ?_
    refine lv2 Try.results29 hA rfl rfl ?_
    exact ⟨none, 0, 0, rfl, hS⟩
  replace hF := iff' hb110 hF
  refine wp_skip ?_
  refine hK108 _ _ ?_
  refine wp_seq_k fun K112 hK112 => ?_
  refine wp_reg ?_
  refine x_assign hA (fun ac hA => ?_) rfl rfl rfl rfl rfl
  refine wpList_nil ?_
  refine hK112 _ _ ?_
  refine wp_seq_k fun K113 hK113 => ?_
  refine wp_seq_k fun K339 hK339 => ?_
  refine wp_reg ?_
  refine x_move hA (fun ac hA => ?_) rfl rfl rfl rfl rfl
  refine x_len Try.underlying37 (hS.rd 0 rfl).2.1 hA (fun ac hA => ?_) rfl rfl rfl rfl rfl
  refine x_move hA (fun ac hA => ?_) rfl rfl rfl rfl rfl
  refine wpList_nil ?_
  refine hK339 _ _ ?_
  refine wp_block_k fun Kx340 hKx340 => ?_
  have hb1 : ∀ (l450 : (List Nat)), column_ReadReals_b1 l450 = some y → ∀ (A451 : Option Addr) (n452 : Nat) (c453 : Nat) (ac : Act) (w : World), FR 38 [] ac [(6, .slice A451 n452 c453)] → SH r (own kF 53 A451 n452 c453 l450 :: L) w → Kx340 ac w := by
    intro l450 hF A451 n452 c453 ac w hA hS
    unfold column_ReadReals_b1 at hF
    refine hKx340 _ _ ?_
    refine hK113 _ _ ?_
    refine wp_seq_k fun K454 hK454 => ?_
    refine wp_reg ?_
    refine x_move hA (fun ac hA => ?_) rfl rfl rfl rfl rfl
    refine x_assign hA (fun ac hA => ?_) rfl rfl rfl rfl rfl
    refine x_assign hA (fun ac hA => ?_) rfl rfl rfl rfl rfl
    refine wpList_nil ?_
    refine hK454 _ _ ?_
    refine wp_ret ?_
    cases hF
    refine hQ _ _ ?_
    refine lv2 Try.results29 hA rfl rfl ?_
    exact ⟨A451, n452, c453, rfl, hS⟩
  obtain ⟨t535, hl535, hF⟩ := bnd hF
  have hR535 := hF
  have hx535_0 : ∀ (l532 : (List Nat)), (.inl (l532)) = t535 → ∀ (A533 : Option Addr) (n534 : Nat) (c535 : Nat) (ac : Act) (w : World), FR 38 [] ac [(6, .slice A533 n534 c535)] → SH r (own kF 53 A533 n534 c535 l532 :: L) w → Kx340 ac w := by
    intro l532 ht A533 n534 c535 ac w hA hS
    subst ht
    replace hF : column_ReadReals_x1_0 l532 = some y := hF
    unfold column_ReadReals_x1_0 at hF
    exact hb1 l532 hF A533 n534 c535 ac w (hA.sub _ rfl) hS
  replace hS := SH.nil_own (d := kF) (e := 53) hS
  refine wp_loop_fn hl535 (fun s ac w => ∃ (A496 : Option Addr) (n497 : Nat) (c498 : Nat), FR 38 [] ac [(6, .slice A496 n497 c498), (18, .slice B105 m106 d107), (19, .int .i64 (y103.1.length : Int)), (20, .int .i64 s.2)] ∧ SH r (own kF 53 A496 n497 c498 s.1 :: own (kI .i64) 2 B105 m106 d107 y103.1 :: L) w) ⟨none, 0, 0, hA.sub _ rfl, hS⟩ ?_
  intro N535 s535 o535 hF N535_ T535_ ac w hLab
  obtain ⟨l495, x499⟩ := s535
  replace hF : column_ReadReals_l1 y103 l495 x499 = some o535 := hF
  unfold column_ReadReals_l1 at hF
  try dsimp only at hLab
  obtain ⟨A496, n497, c498, hA, hS⟩ := hLab
  refine wp_seq_k fun K537 hK537 => ?_
  refine wp_reg ?_
  refine x_val hA (r_ltI rfl (hA.ev rfl) (hA.ev rfl)) (fun ac hA => ?_) rfl rfl rfl
  refine wpList_nil ?_
  refine hK537 _ _ ?_
  refine wp_seq_k fun K538 hK538 => ?_
  refine c_if hA rfl (fun hb539 => ?_) fun hb539 => ?_
  · replace hF := ift hb539 hF
    refine wp_skip ?_
    refine hK538 _ _ ?_
    refine wp_seq_k fun K540 hK540 => ?_
    refine wp_block_k fun Kx541 hKx541 => ?_
    refine wp_seq_k fun K542 hK542 => ?_
    refine wp_reg ?_
    obtain ⟨x543, h544, hF⟩ := bnd hF
    refine x_ia Try.underlying37 sz2 (hS.rd 1 rfl) h544 hA (fun ac hA => ?_) rfl rfl rfl rfl rfl rfl
    obtain ⟨cs, hV, hc545⟩ := el (hS.rd 1 rfl) h544
    obtain rfl := hV
    refine x_ld Try.underlying2 (hc545 0 _ rfl) hA (fun ac hA => ?_) rfl rfl rfl rfl rfl rfl
    refine x_assign hA (fun ac hA => ?_) rfl rfl rfl rfl rfl
    refine wpList_nil ?_
    refine hK542 _ _ ?_
    refine wp_seq_k fun K546 hK546 => ?_
    refine wp_reg ?_
    refine x_move hA (fun ac hA => ?_) rfl rfl rfl rfl rfl
    obtain ⟨x547, h548, hF⟩ := ltt_ hF
    refine x_val (v := .int .u64 x547) hA (rv_i h548 (r_convI Try.underlying2 Try.underlying29 rfl (hA.ev rfl))) (fun ac hA => ?_) rfl rfl rfl
    obtain ⟨y549, h550, hF⟩ := bnd hF
    refine x_call en49 hA (F_real_Of (L := own kF 53 A496 n497 c498 l495 :: own (kI .i64) 2 B105 m106 d107 y103.1 :: L) x547 h550 hS) (fun v ac w hR hA => ?_) rfl rfl rfl rfl rfl
    obtain ⟨rfl, hS⟩ := hR
    refine x_assign hA (fun ac hA => ?_) rfl rfl rfl rfl rfl
    refine wpList_nil ?_
    refine hK546 _ _ ?_
    refine wp_seq_k fun K551 hK551 => ?_
    refine wp_seq_k fun K552 hK552 => ?_
    refine wp_reg ?_
    refine x_move hA (fun ac hA => ?_) rfl rfl rfl rfl rfl
    obtain ⟨y553, h554, hF⟩ := bnd hF
    refine x_call en48 hA (F_real_Bits (L := own kF 53 A496 n497 c498 l495 :: own (kI .i64) 2 B105 m106 d107 y103.1 :: L) y549 h554 hS) (fun v ac w hR hA => ?_) rfl rfl rfl rfl rfl
    obtain ⟨rfl, hS⟩ := hR
    refine x_move hA (fun ac hA => ?_) rfl rfl rfl rfl rfl
    refine x_val (v := .int .u64 x547) hA (rv_i h548 (r_convI Try.underlying2 Try.underlying29 rfl (hA.ev rfl))) (fun ac hA => ?_) rfl rfl rfl
    refine x_val hA (r_neI rfl (hA.ev rfl) (hA.ev rfl)) (fun ac hA => ?_) rfl rfl rfl
    refine wpList_nil ?_
    refine hK552 _ _ ?_
    refine c_if hA rfl (fun hb555 => ?_) fun hb555 => ?_
    · replace hF := ift hb555 hF
      refine wp_seq_k fun K556 hK556 => ?_
      refine wp_reg ?_
      refine x_assign hA (fun ac hA => ?_) rfl rfl rfl rfl rfl
      refine x_assign hA (fun ac hA => ?_) rfl rfl rfl rfl rfl
      refine wpList_nil ?_
      refine hK556 _ _ ?_
      refine wp_ret ?_
      replace hS := SH.nil_own (d := kF) (e := 53) hS
      replace hS := hS.drop 1
      replace hS := hS.drop 1
      cases hF
      have ht := T535_ _ rfl
      subst ht
      replace hF := hR535
      replace hF : some ([], 3) = some y := hF
      cases hF
      refine hQ _ _ ?_
      refine lv2 Try.results29 hA rfl rfl ?_
      exact ⟨none, 0, 0, rfl, hS⟩
    replace hF := iff' hb555 hF
    refine wp_skip ?_
    refine hK551 _ _ ?_
    refine wp_reg ?_
    refine x_move hA (fun ac hA => ?_) rfl rfl rfl rfl rfl
    refine x_move hA (fun ac hA => ?_) rfl rfl rfl rfl rfl
    refine x_bsl (d := kF) (e := 53) (ps := #[(0, .float .f64 y549)]) (cells := [.float .f64 y549]) (xs := [y549]) (fun w => by kernel_rfl) rfl ⟨[.float .f64 y549], _, rfl, rfl, rfl⟩ hA hS (fun g557 ac w hS hA => ?_) rfl rfl rfl rfl rfl rfl
    obtain ⟨h558, hF⟩ := chk_some hF
    have hr := hS.rd 0 rfl
    refine x_app 1 inf53 Try.underlying48 hA hS hr.1 hr.2.1 h558 rfl (fun A559 n560 c561 ac w hS hA => ?_) rfl rfl rfl rfl rfl rfl rfl rfl rfl
    refine x_assign hA (fun ac hA => ?_) rfl rfl rfl rfl rfl
    refine wpList_nil ?_
    refine hKx541 _ _ ?_
    refine hK540 _ _ ?_
    refine wp_reg ?_
    obtain ⟨x562, h563, hF⟩ := ltt_ hF
    refine x_val (v := .int .i64 x562) hA (rv_i h563 (r_add rfl (hA.ev rfl) (hA.ev rfl))) (fun ac hA => ?_) rfl rfl rfl
    refine x_move hA (fun ac hA => ?_) rfl rfl rfl rfl rfl
    refine wpList_nil ?_
    replace hS := hS.drop 1
    cases hF
    exact ⟨_, N535_ _ rfl, A559, n560, c561, hA.sub _ rfl, hS⟩
  replace hF := iff' hb539 hF
  refine wp_exit ?_
  replace hS := hS.drop 1
  cases hF
  exact hx535_0 l495 (T535_ _ rfl) A496 n497 c498 ac w (hA.sub _ rfl) hS

set_option maxHeartbeats 4000000 in
theorem F_r03_Reals {r : World} {L : List HP} {w : World} (a0 : (List Nat)) (A0 : Option Addr) (n0 : Nat) (c0 : Nat) {y : ((List Int))} (hF : r03_Reals a0 = some y) (ha0 : RdL L kF A0 n0 c0 a0) (hS : SH r (L) w) :
    Ret Try.prog 30 #[.slice A0 n0 c0] w fun v w' => ∃ (B0 : Option Addr) (m0 : Nat) (d0 : Nat), v = .slice B0 m0 d0 ∧ SH r (own (kI .u8) 5 B0 m0 d0 y :: L) w' := by
  refine enter Try.func30 rfl Try.ntmps30 [(0, .slice A0 n0 c0)] rfl (by simp) ?_
  intro ac hA Qf hQ hQn
  unfold r03_Reals at hF
  refine wp_seq_k fun K101 hK101 => ?_
  refine wp_reg ?_
  refine x_assign hA (fun ac hA => ?_) rfl rfl rfl rfl rfl
  refine wpList_nil ?_
  refine hK101 _ _ ?_
  refine wp_seq_k fun K102 hK102 => ?_
  refine wp_reg ?_
  refine x_assign hA (fun ac hA => ?_) rfl rfl rfl rfl rfl
  refine wpList_nil ?_
  refine hK102 _ _ ?_
  refine wp_seq_k fun K103 hK103 => ?_
  refine wp_seq_k fun K281 hK281 => ?_
  refine wp_reg ?_
  refine x_assign hA (fun ac hA => ?_) rfl rfl rfl rfl rfl
  refine wpList_nil ?_
  refine hK281 _ _ ?_
  refine wp_block_k fun Kx282 hKx282 => ?_
  have hb1 : ∀ (l368 : (List Int)), r03_Reals_b1 l368 = some y → ∀ (A369 : Option Addr) (n370 : Nat) (c371 : Nat) (ac : Act) (w : World), FR 22 [] ac [(3, .slice A369 n370 c371)] → SH r (own (kI .i64) 2 A369 n370 c371 l368 :: L) w → Kx282 ac w := by
    intro l368 hF A369 n370 c371 ac w hA hS
    unfold r03_Reals_b1 at hF
    refine hKx282 _ _ ?_
    refine hK103 _ _ ?_
    refine wp_seq_k fun K372 hK372 => ?_
    refine wp_reg ?_
    refine x_move hA (fun ac hA => ?_) rfl rfl rfl rfl rfl
    obtain ⟨y373, h374, hF⟩ := bnd hF
    refine x_call en23 hA (F_r03_Ints (L := own (kI .i64) 2 A369 n370 c371 l368 :: L) l368 A369 n370 c371 h374 (RdL.own 0 rfl (hS.dropN 0)) hS) (fun v ac w hR hA => ?_) rfl rfl rfl rfl rfl
    obtain ⟨B375, m376, d377, rfl, hS⟩ := hR
    refine x_assign hA (fun ac hA => ?_) rfl rfl rfl rfl rfl
    refine wpList_nil ?_
    refine hK372 _ _ ?_
    refine wp_ret ?_
    replace hS := hS.drop 1
    cases hF
    refine hQ _ _ ?_
    refine lv Try.results30 hA rfl ?_
    exact ⟨B375, m376, d377, rfl, hS⟩
  obtain ⟨t442, hl442, hF⟩ := bnd hF
  have hx442_0 : ∀ (l439 : (List Int)), (l439) = t442 → ∀ (A440 : Option Addr) (n441 : Nat) (c442 : Nat) (ac : Act) (w : World), FR 22 [] ac [(3, .slice A440 n441 c442)] → SH r (own (kI .i64) 2 A440 n441 c442 l439 :: L) w → Kx282 ac w := by
    intro l439 ht A440 n441 c442 ac w hA hS
    subst ht
    replace hF : r03_Reals_x1_0 l439 = some y := hF
    unfold r03_Reals_x1_0 at hF
    exact hb1 l439 hF A440 n441 c442 ac w (hA.sub _ rfl) hS
  replace hS := SH.nil_own (d := (kI .i64)) (e := 2) hS
  refine wp_loop_fn hl442 (fun s ac w => ∃ (A411 : Option Addr) (n412 : Nat) (c413 : Nat), FR 22 [] ac [(0, .slice A0 n0 c0), (3, .slice A411 n412 c413), (4, .int .i64 s.2)] ∧ SH r (own (kI .i64) 2 A411 n412 c413 s.1 :: L) w) ⟨none, 0, 0, hA.sub _ rfl, hS⟩ ?_
  intro N442 s442 o442 hF N442_ T442_ ac w hLab
  obtain ⟨l410, x414⟩ := s442
  replace hF : r03_Reals_l1 a0 l410 x414 = some o442 := hF
  unfold r03_Reals_l1 at hF
  try dsimp only at hLab
  obtain ⟨A411, n412, c413, hA, hS⟩ := hLab
  refine wp_seq_k fun K444 hK444 => ?_
  refine wp_seq_k fun K445 hK445 => ?_
  refine wp_reg ?_
  refine x_move hA (fun ac hA => ?_) rfl rfl rfl rfl rfl
  refine x_move hA (fun ac hA => ?_) rfl rfl rfl rfl rfl
  refine x_len Try.underlying48 (hS.rdl 1 ha0 rfl).2.1 hA (fun ac hA => ?_) rfl rfl rfl rfl rfl
  refine x_val hA (r_ltI rfl (hA.ev rfl) (hA.ev rfl)) (fun ac hA => ?_) rfl rfl rfl
  refine wpList_nil ?_
  refine hK445 _ _ ?_
  refine c_if hA rfl (fun hb446 => ?_) fun hb446 => ?_
  · replace hF := ift hb446 hF
    refine wp_skip ?_
    refine hK444 _ _ ?_
    refine wp_seq_k fun K447 hK447 => ?_
    refine wp_block_k fun Kx448 hKx448 => ?_
    refine wp_reg ?_
    refine x_move hA (fun ac hA => ?_) rfl rfl rfl rfl rfl
    refine x_move hA (fun ac hA => ?_) rfl rfl rfl rfl rfl
    refine x_move hA (fun ac hA => ?_) rfl rfl rfl rfl rfl
    obtain ⟨x449, h450, hF⟩ := bnd hF
    refine x_ia Try.underlying48 sz53 (hS.rdl 1 ha0 rfl) h450 hA (fun ac hA => ?_) rfl rfl rfl rfl rfl rfl
    obtain ⟨cs, hV, hc451⟩ := el (hS.rdl 1 ha0 rfl) h450
    obtain rfl := hV
    refine x_ld Try.underlying53 (hc451 0 _ rfl) hA (fun ac hA => ?_) rfl rfl rfl rfl rfl rfl
    obtain ⟨y452, h453, hF⟩ := bnd hF
    refine x_call en50 hA (F_r01_Bits (L := own (kI .i64) 2 A411 n412 c413 l410 :: L) x449 h453 hS) (fun v ac w hR hA => ?_) rfl rfl rfl rfl rfl
    obtain ⟨rfl, hS⟩ := hR
    obtain ⟨x454, h455, hF⟩ := ltt_ hF
    refine x_val (v := .int .i64 x454) hA (rv_i h455 (r_convI Try.underlying29 Try.underlying2 rfl (hA.ev rfl))) (fun ac hA => ?_) rfl rfl rfl
    refine x_bsl (d := (kI .i64)) (e := 2) (ps := #[(0, .int .i64 x454)]) (cells := [.int .i64 x454]) (xs := [x454]) (fun w => by kernel_rfl) rfl ⟨[.int .i64 x454], _, rfl, rfl, rfl⟩ hA hS (fun g456 ac w hS hA => ?_) rfl rfl rfl rfl rfl rfl
    obtain ⟨h457, hF⟩ := chk_some hF
    have hr := hS.rd 0 rfl
    refine x_app 1 inf2 Try.underlying37 hA hS hr.1 hr.2.1 h457 rfl (fun A458 n459 c460 ac w hS hA => ?_) rfl rfl rfl rfl rfl rfl rfl rfl rfl
    refine x_assign hA (fun ac hA => ?_) rfl rfl rfl rfl rfl
    refine wpList_nil ?_
    refine hKx448 _ _ ?_
    refine hK447 _ _ ?_
    refine wp_reg ?_
    refine x_move hA (fun ac hA => ?_) rfl rfl rfl rfl rfl
    obtain ⟨x461, h462, hF⟩ := ltt_ hF
    refine x_val (v := .int .i64 x461) hA (rv_i h462 (r_add rfl (hA.ev rfl) (hA.ev rfl))) (fun ac hA => ?_) rfl rfl rfl
    refine x_assign hA (fun ac hA => ?_) rfl rfl rfl rfl rfl
    refine wpList_nil ?_
    replace hS := hS.drop 1
    cases hF
    exact ⟨_, N442_ _ rfl, A458, n459, c460, hA.sub _ rfl, hS⟩
  replace hF := iff' hb446 hF
  refine wp_exit ?_
  cases hF
  exact hx442_0 l410 (T442_ _ rfl) A411 n412 c413 ac w (hA.sub _ rfl) hS

set_option maxHeartbeats 4000000 in
theorem F_r03_ReadReals {r : World} {L : List HP} {w : World} {Z : Nat → Prop} {wz : World} (a0 : (List Int)) (A0 : Option Addr) (n0 : Nat) (c0 : Nat) {y : ((List Nat) × Bool)} (hF : r03_ReadReals a0 = some y) (qz : Nat) (hZ : L[qz]? = some (zone Z wz)) (ha0 : Imm Z wz (kI .u8) A0 n0 c0 a0) (hS : SH r (L) w) :
    Ret Try.prog 35 #[.slice A0 n0 c0] w fun v w' => ∃ (B0 : Option Addr) (m0 : Nat) (d0 : Nat), v = .tuple #[(.slice B0 m0 d0), (.bool y.2)] ∧ SH r (own kF 53 B0 m0 d0 y.1 :: L) w' := by
  refine enter Try.func35 rfl Try.ntmps35 [(0, .slice A0 n0 c0)] rfl (by simp) ?_
  intro ac hA Qf hQ hQn
  unfold r03_ReadReals at hF
  refine wp_seq_k fun K101 hK101 => ?_
  refine wp_reg ?_
  refine x_assign hA (fun ac hA => ?_) rfl rfl rfl rfl rfl
  refine x_assign hA (fun ac hA => ?_) rfl rfl rfl rfl rfl
  refine wpList_nil ?_
  refine hK101 _ _ ?_
  refine wp_seq_k fun K102 hK102 => ?_
  refine wp_reg ?_
  refine x_move hA (fun ac hA => ?_) rfl rfl rfl rfl rfl
  obtain ⟨y103, h104, hF⟩ := bnd hF
  refine x_call en32 hA (F_r03_ReadInts (L := L) a0 A0 n0 c0 h104 (qz + 0) hZ ha0 hS) (fun v ac w hR hA => ?_) rfl rfl rfl rfl rfl
  obtain ⟨B105, m106, d107, rfl, hS⟩ := hR
  refine x_move hA (fun ac hA => ?_) rfl rfl rfl rfl rfl
  refine x_val hA (r_extract rfl (hA.ev rfl) rfl) (fun ac hA => ?_) rfl rfl rfl
  refine x_val hA (r_extract rfl (hA.ev rfl) rfl) (fun ac hA => ?_) rfl rfl rfl
  refine x_assign hA (fun ac hA => ?_) rfl rfl rfl rfl rfl
  refine x_assign hA (fun ac hA => ?_) rfl rfl rfl rfl rfl
  refine wpList_nil ?_
  refine hK102 _ _ ?_
  refine wp_seq_k fun K108 hK108 => ?_
  refine wp_reg ?_
  refine x_assign hA (fun ac hA => ?_) rfl rfl rfl rfl rfl
  refine wpList_nil ?_
  refine hK108 _ _ ?_
  refine wp_seq_k fun K109 hK109 => ?_
  refine wp_seq_k fun K341 hK341 => ?_
  refine wp_reg ?_
  refine x_assign hA (fun ac hA => ?_) rfl rfl rfl rfl rfl
  refine wpList_nil ?_
  refine hK341 _ _ ?_
  refine wp_block_k fun Kx342 hKx342 => ?_
  have hb1 : ∀ (l455 : (List Nat)), r03_ReadReals_b1 y103 l455 = some y → ∀ (A456 : Option Addr) (n457 : Nat) (c458 : Nat) (ac : Act) (w : World), FR 40 [] ac [(5, .bool y103.2), (6, .slice A456 n457 c458)] → SH r (own kF 53 A456 n457 c458 l455 :: L) w → Kx342 ac w := by
    intro l455 hF A456 n457 c458 ac w hA hS
    unfold r03_ReadReals_b1 at hF
    refine hKx342 _ _ ?_
    refine hK109 _ _ ?_
    refine wp_seq_k fun K459 hK459 => ?_
    refine wp_reg ?_
    refine x_move hA (fun ac hA => ?_) rfl rfl rfl rfl rfl
    refine x_move hA (fun ac hA => ?_) rfl rfl rfl rfl rfl
    refine x_assign hA (fun ac hA => ?_) rfl rfl rfl rfl rfl
    refine x_assign hA (fun ac hA => ?_) rfl rfl rfl rfl rfl
    refine wpList_nil ?_
    refine hK459 _ _ ?_
    refine wp_ret ?_
    cases hF
    refine hQ _ _ ?_
    refine lv2 Try.results35 hA rfl rfl ?_
    exact ⟨A456, n457, c458, rfl, hS⟩
  obtain ⟨t542, hl542, hF⟩ := bnd hF
  have hR542 := hF
  have hx542_0 : ∀ (l539 : (List Nat)), (.inl (l539)) = t542 → ∀ (A540 : Option Addr) (n541 : Nat) (c542 : Nat) (ac : Act) (w : World), FR 40 [] ac [(5, .bool y103.2), (6, .slice A540 n541 c542)] → SH r (own kF 53 A540 n541 c542 l539 :: L) w → Kx342 ac w := by
    intro l539 ht A540 n541 c542 ac w hA hS
    subst ht
    replace hF : r03_ReadReals_x1_0 y103 l539 = some y := hF
    unfold r03_ReadReals_x1_0 at hF
    exact hb1 l539 hF A540 n541 c542 ac w (hA.sub _ rfl) hS
  replace hS := SH.nil_own (d := kF) (e := 53) hS
  replace hS := hS.pk 1
  refine wp_loop_fn hl542 (fun s ac w => ∃ (A502 : Option Addr) (n503 : Nat) (c504 : Nat), FR 40 [] ac [(4, .slice B105 m106 d107), (5, .bool y103.2), (6, .slice A502 n503 c504), (7, .int .i64 s.2)] ∧ SH r (own (kI .i64) 2 B105 m106 d107 y103.1 :: own kF 53 A502 n503 c504 s.1 :: L) w) ⟨none, 0, 0, hA.sub _ rfl, hS⟩ ?_
  intro N542 s542 o542 hF N542_ T542_ ac w hLab
  obtain ⟨l501, x505⟩ := s542
  replace hF : r03_ReadReals_l1 y103 l501 x505 = some o542 := hF
  unfold r03_ReadReals_l1 at hF
  try dsimp only at hLab
  obtain ⟨A502, n503, c504, hA, hS⟩ := hLab
  refine wp_seq_k fun K544 hK544 => ?_
  refine wp_seq_k fun K545 hK545 => ?_
  refine wp_reg ?_
  refine x_move hA (fun ac hA => ?_) rfl rfl rfl rfl rfl
  refine x_move hA (fun ac hA => ?_) rfl rfl rfl rfl rfl
  refine x_len Try.underlying37 (hS.rd 0 rfl).2.1 hA (fun ac hA => ?_) rfl rfl rfl rfl rfl
  refine x_val hA (r_ltI rfl (hA.ev rfl) (hA.ev rfl)) (fun ac hA => ?_) rfl rfl rfl
  refine wpList_nil ?_
  refine hK545 _ _ ?_
  refine c_if hA rfl (fun hb546 => ?_) fun hb546 => ?_
  · replace hF := ift hb546 hF
    refine wp_skip ?_
    refine hK544 _ _ ?_
    refine wp_seq_k fun K547 hK547 => ?_
    refine wp_block_k fun Kx548 hKx548 => ?_
    refine wp_seq_k fun K549 hK549 => ?_
    refine wp_reg ?_
    refine x_move hA (fun ac hA => ?_) rfl rfl rfl rfl rfl
    refine x_move hA (fun ac hA => ?_) rfl rfl rfl rfl rfl
    obtain ⟨x550, h551, hF⟩ := bnd hF
    refine x_ia Try.underlying37 sz2 (hS.rd 0 rfl) h551 hA (fun ac hA => ?_) rfl rfl rfl rfl rfl rfl
    obtain ⟨cs, hV, hc552⟩ := el (hS.rd 0 rfl) h551
    obtain rfl := hV
    refine x_ld Try.underlying2 (hc552 0 _ rfl) hA (fun ac hA => ?_) rfl rfl rfl rfl rfl rfl
    obtain ⟨x553, h554, hF⟩ := ltt_ hF
    refine x_val (v := .int .u64 x553) hA (rv_i h554 (r_convI Try.underlying2 Try.underlying29 rfl (hA.ev rfl))) (fun ac hA => ?_) rfl rfl rfl
    obtain ⟨y555, h556, hF⟩ := bnd hF
    refine x_call en54 hA (F_r01_Of (L := own (kI .i64) 2 B105 m106 d107 y103.1 :: own kF 53 A502 n503 c504 l501 :: L) x553 h556 hS) (fun v ac w hR hA => ?_) rfl rfl rfl rfl rfl
    obtain ⟨rfl, hS⟩ := hR
    refine x_assign hA (fun ac hA => ?_) rfl rfl rfl rfl rfl
    refine wpList_nil ?_
    refine hK549 _ _ ?_
    refine wp_seq_k fun K557 hK557 => ?_
    refine wp_seq_k fun K558 hK558 => ?_
    refine wp_draw [0, 1, 0, 0, 12, 28, 60, 127] [1] rfl hA hS (by kernel_rfl) (by kernel_rfl) (by kernel_rfl) (by kernel_rfl) fun w hS => ?_
    obtain ⟨cs, hV, hc559⟩ := el (hS.rd 0 rfl) h551
    obtain rfl := hV
    refine ⟨[(0, .float .f64 y555), (2, .slice B105 m106 d107), (3, .int .i64 x505), (4, .pointer (some (ea B105 (x505.toNat * 1)))), (5, .int .i64 x550), (6, .int .u64 x553)], ?_⟩
    refine dEff [0, 2, 3, 4, 5, 6] [1] (by kernel_rfl) ⟨pu rfl rfl [(8, .float .f64 y555)] (fun ac hA => y_move hA rfl rfl) rfl rfl, pu rfl rfl [(4, .slice B105 m106 d107)] (fun ac hA => y_move hA rfl rfl) rfl rfl, pu rfl rfl [(7, .int .i64 x505)] (fun ac hA => y_move hA rfl rfl) rfl rfl, pu rfl rfl [(28, .slice B105 m106 d107), (29, .int .i64 x505)] (fun ac hA => y_ia Try.underlying37 sz2 (hS.rd 0 rfl) h551 hA rfl rfl rfl) rfl rfl, pu rfl rfl [(30, .pointer (some (ea B105 (x505.toNat * 1))))] (fun ac hA => y_ld Try.underlying2 (hc559 0 _ rfl) hA rfl rfl rfl) rfl rfl, pu rfl rfl [(31, .int .i64 x550)] (fun ac hA => (rv_i h554 (r_convI Try.underlying2 Try.underlying29 rfl (hA.ev rfl)) : RunV _ _ _ _ (.int .u64 x553))) rfl rfl, trivial⟩ (by kernel_rfl) (by kernel_rfl) ⟨ef rfl [(26, .float .f64 y555)] (fun ac hA K hK => ?_) rfl rfl, trivial⟩
    obtain ⟨y560, h561, hF⟩ := bnd hF
    refine z_call en50 hA (F_r01_Bits (L := own (kI .i64) 2 B105 m106 d107 y103.1 :: own kF 53 A502 n503 c504 l501 :: L) y555 h561 hS) (fun v w hR => ?_) rfl rfl
    obtain ⟨rfl, hS⟩ := hR
    obtain ⟨cs, hV, hc562⟩ := el (hS.rd 0 rfl) h551
    obtain rfl := hV
    refine hK _ [(7, .bool (y560 != x553))] _ rfl ?_
    refine dEnd [2, 3, 4, 5, 6, 7] (by kernel_rfl) ⟨pu rfl rfl [(4, .slice B105 m106 d107)] (fun ac hA => y_move hA rfl rfl) rfl rfl, pu rfl rfl [(7, .int .i64 x505)] (fun ac hA => y_move hA rfl rfl) rfl rfl, pu rfl rfl [(28, .slice B105 m106 d107), (29, .int .i64 x505)] (fun ac hA => y_ia Try.underlying37 sz2 (hS.rd 0 rfl) h551 hA rfl rfl rfl) rfl rfl, pu rfl rfl [(30, .pointer (some (ea B105 (x505.toNat * 1))))] (fun ac hA => y_ld Try.underlying2 (hc562 0 _ rfl) hA rfl rfl rfl) rfl rfl, pu rfl rfl [(31, .int .i64 x550)] (fun ac hA => (rv_i h554 (r_convI Try.underlying2 Try.underlying29 rfl (hA.ev rfl)) : RunV _ _ _ _ (.int .u64 x553))) rfl rfl, pu rfl rfl [(27, .int .u64 y560), (32, .int .u64 x553)] (fun ac hA => r_neI rfl (hA.ev rfl) (hA.ev rfl)) rfl rfl, trivial⟩ ⟨by kernel_rfl, by kernel_rfl⟩ [(4, .slice B105 m106 d107), (5, .bool y103.2), (6, .slice A502 n503 c504), (7, .int .i64 x505), (8, .float .f64 y555), (33, .bool (y560 != x553))] rfl (fun ac hA => ?_)
    refine hK558 _ _ ?_
    refine c_if hA rfl (fun hb563 => ?_) fun hb563 => ?_
    · replace hF := ift hb563 hF
      refine wp_seq_k fun K564 hK564 => ?_
      refine wp_reg ?_
      refine x_assign hA (fun ac hA => ?_) rfl rfl rfl rfl rfl
      refine x_assign hA (fun ac hA => ?_) rfl rfl rfl rfl rfl
      refine wpList_nil ?_
      refine hK564 _ _ ?_
      refine wp_ret ?_
      replace hS := SH.nil_own (d := kF) (e := 53) hS
      replace hS := hS.drop 1
      replace hS := hS.drop 1
      cases hF
      have ht := T542_ _ rfl
      subst ht
      replace hF := hR542
      replace hF : some ([], false) = some y := hF
      cases hF
      refine hQ _ _ ?_
      refine lv2 Try.results35 hA rfl rfl ?_
      exact ⟨none, 0, 0, rfl, hS⟩
    replace hF := iff' hb563 hF
    refine wp_skip ?_
    refine hK557 _ _ ?_
    refine wp_reg ?_
    refine x_move hA (fun ac hA => ?_) rfl rfl rfl rfl rfl
    refine x_move hA (fun ac hA => ?_) rfl rfl rfl rfl rfl
    refine x_bsl (d := kF) (e := 53) (ps := #[(0, .float .f64 y555)]) (cells := [.float .f64 y555]) (xs := [y555]) (fun w => by kernel_rfl) rfl ⟨[.float .f64 y555], _, rfl, rfl, rfl⟩ hA hS (fun g565 ac w hS hA => ?_) rfl rfl rfl rfl rfl rfl
    obtain ⟨h566, hF⟩ := chk_some hF
    have hr := hS.rd 0 rfl
    refine x_app 2 inf53 Try.underlying48 hA hS hr.1 hr.2.1 h566 rfl (fun A567 n568 c569 ac w hS hA => ?_) rfl rfl rfl rfl rfl rfl rfl rfl rfl
    refine x_assign hA (fun ac hA => ?_) rfl rfl rfl rfl rfl
    refine wpList_nil ?_
    refine hKx548 _ _ ?_
    refine hK547 _ _ ?_
    refine wp_reg ?_
    refine x_move hA (fun ac hA => ?_) rfl rfl rfl rfl rfl
    obtain ⟨x570, h571, hF⟩ := ltt_ hF
    refine x_val (v := .int .i64 x570) hA (rv_i h571 (r_add rfl (hA.ev rfl) (hA.ev rfl))) (fun ac hA => ?_) rfl rfl rfl
    refine x_assign hA (fun ac hA => ?_) rfl rfl rfl rfl rfl
    refine wpList_nil ?_
    replace hS := hS.drop 1
    replace hS := hS.pk 1
    cases hF
    exact ⟨_, N542_ _ rfl, A567, n568, c569, hA.sub _ rfl, hS⟩
  replace hF := iff' hb546 hF
  refine wp_exit ?_
  replace hS := hS.drop 0
  cases hF
  exact hx542_0 l501 (T542_ _ rfl) A502 n503 c504 ac w (hA.sub _ rfl) hS

set_option maxHeartbeats 4000000 in
theorem F_law03_ColumnReals {r : World} {L : List HP} {w : World} {Z : Nat → Prop} {wz : World} (a0 : (List Nat)) (A0 : Option Addr) (n0 : Nat) (c0 : Nat) {y : (Bool)} (hF : law03_ColumnReals a0 = some y) (ha0 : Imm Z wz kF A0 n0 c0 a0) (hS : SH r (zone Z wz :: L) w) :
    Ret Try.prog 7 #[.slice A0 n0 c0] w fun v w' => ∃ (Z' : Nat → Prop) (wz' : World), v = .bool y ∧ Sub Z wz Z' wz' ∧ SH r (zone Z' wz' :: L) w' := by
  refine enter Try.func7 rfl Try.ntmps7 [(0, .slice A0 n0 c0)] rfl (by simp) ?_
  intro ac hA Qf hQ hQn
  unfold law03_ColumnReals at hF
  refine wp_seq_k fun K101 hK101 => ?_
  refine wp_reg ?_
  refine x_assign hA (fun ac hA => ?_) rfl rfl rfl rfl rfl
  refine wpList_nil ?_
  refine hK101 _ _ ?_
  refine wp_seq_k fun K102 hK102 => ?_
  refine wp_seq_k fun K103 hK103 => ?_
  have hj1 : ∀ (b107 : Bool), law03_ColumnReals_j1 a0 b107 = some y → ∀ (ac : Act) (w : World), FR 55 [] ac [(0, .slice A0 n0 c0), (13, .bool b107)] → SH r (zone Z wz :: L) w → K103 ac w := by
    intro b107 hF ac w hA hS
    unfold law03_ColumnReals_j1 at hF
    refine hK103 _ _ ?_
    refine c_if hA rfl (fun hb108 => ?_) fun hb108 => ?_
    · replace hF := ift hb108 hF
      refine wp_seq_k fun K109 hK109 => ?_
      refine wp_reg ?_
      obtain ⟨y110, h111, hF⟩ := bnd hF
      refine x_call en10 hA (F_law03_awake (L := zone Z wz :: L) h111 hS) (fun v ac w hR hA => ?_) rfl rfl rfl rfl rfl
      obtain ⟨rfl, hS⟩ := hR
      refine x_assign hA (fun ac hA => ?_) rfl rfl rfl rfl rfl
      refine wpList_nil ?_
      refine hK109 _ _ ?_
      refine wp_ret ?_
      cases hF
      refine hQ _ _ ?_
      refine lv Try.results7 hA rfl ?_
      exact ⟨Z, wz, rfl, (Sub.refl _ _), hS⟩
    replace hF := iff' hb108 hF
    refine wp_skip ?_
    refine hK102 _ _ ?_
    refine wp_seq_k fun K112 hK112 => ?_
    refine wp_reg ?_
    refine x_move hA (fun ac hA => ?_) rfl rfl rfl rfl rfl
    obtain ⟨y113, h114, hF⟩ := bnd hF
    refine x_call en28 hA (F_column_Reals (L := zone Z wz :: L) a0 A0 n0 c0 h114 (ha0.rdl 0 rfl) hS) (fun v ac w hR hA => ?_) rfl rfl rfl rfl rfl
    obtain ⟨B115, m116, d117, rfl, hS⟩ := hR
    refine x_assign hA (fun ac hA => ?_) rfl rfl rfl rfl rfl
    refine wpList_nil ?_
    refine hK112 _ _ ?_
    refine wp_seq_k fun K118 hK118 => ?_
    refine wp_reg ?_
    refine x_move hA (fun ac hA => ?_) rfl rfl rfl rfl rfl
    replace hS := hS.pk 1
    replace hS := hS.pk 1
    obtain ⟨Z119, wz120, hS, h121, sb122⟩ := SH.freeze (n := m116) (c := d117) (A := B115) hS
    have h123 := Imm.sub ha0 sb122
    obtain ⟨y124, h125, hF⟩ := bnd hF
    refine x_call en29 hA (F_column_ReadReals (L := zone Z119 wz120 :: L) y113 B115 m116 d117 h125 0 rfl h121 hS) (fun v ac w hR hA => ?_) rfl rfl rfl rfl rfl
    obtain ⟨B126, m127, d128, rfl, hS⟩ := hR
    refine x_move hA (fun ac hA => ?_) rfl rfl rfl rfl rfl
    refine x_val hA (r_extract rfl (hA.ev rfl) rfl) (fun ac hA => ?_) rfl rfl rfl
    refine x_val hA (r_extract rfl (hA.ev rfl) rfl) (fun ac hA => ?_) rfl rfl rfl
    refine x_assign hA (fun ac hA => ?_) rfl rfl rfl rfl rfl
    refine x_assign hA (fun ac hA => ?_) rfl rfl rfl rfl rfl
    refine wpList_nil ?_
    refine hK118 _ _ ?_
    refine wp_seq_k fun K129 hK129 => ?_
    refine wp_seq_k fun K130 hK130 => ?_
    have hj2 : ∀ (b138 : Bool), law03_ColumnReals_j2 a0 y124 b138 = some y → ∀ (ac : Act) (w : World), FR 55 [] ac [(0, .slice A0 n0 c0), (4, .slice B126 m127 d128), (38, .bool b138)] → SH r (own kF 53 B126 m127 d128 y124.1 :: zone Z119 wz120 :: L) w → K130 ac w := by
      intro b138 hF ac w hA hS
      unfold law03_ColumnReals_j2 at hF
      refine hK130 _ _ ?_
      refine c_if hA rfl (fun hb139 => ?_) fun hb139 => ?_
      · replace hF := ift hb139 hF
        refine wp_seq_k fun K140 hK140 => ?_
        refine wp_reg ?_
        refine x_assign hA (fun ac hA => ?_) rfl rfl rfl rfl rfl
        refine wpList_nil ?_
        refine hK140 _ _ ?_
        refine wp_ret ?_
        replace hS := hS.drop 0
        cases hF
        refine hQ _ _ ?_
        refine lv Try.results7 hA rfl ?_
        exact ⟨Z119, wz120, rfl, sb122, hS⟩
      replace hF := iff' hb139 hF
      refine wp_skip ?_
      refine hK129 _ _ ?_
      refine wp_seq_k fun K141 hK141 => ?_
      refine wp_seq_k fun K261 hK261 => ?_
      refine wp_reg ?_
      refine x_assign hA (fun ac hA => ?_) rfl rfl rfl rfl rfl
      refine wpList_nil ?_
      refine hK261 _ _ ?_
      refine wp_block_k fun Kx262 hKx262 => ?_
      have hb1 : law03_ColumnReals_b1 = some y → ∀ (ac : Act) (w : World), FR 55 [] ac [] → SH r (zone Z119 wz120 :: L) w → Kx262 ac w := by
        intro hF ac w hA hS
        unfold law03_ColumnReals_b1 at hF
        refine hKx262 _ _ ?_
        refine hK141 _ _ ?_
        refine wp_seq_k fun K321 hK321 => ?_
        refine wp_reg ?_
        refine x_assign hA (fun ac hA => ?_) rfl rfl rfl rfl rfl
        refine wpList_nil ?_
        refine hK321 _ _ ?_
        refine wp_ret ?_
        cases hF
        refine hQ _ _ ?_
        refine lv Try.results7 hA rfl ?_
        exact ⟨Z119, wz120, rfl, sb122, hS⟩
      obtain ⟨t360, hl360, hF⟩ := bnd hF
      have hR360 := hF
      have hx360_0 : (.inl ()) = t360 → ∀ (ac : Act) (w : World), FR 55 [] ac [] → SH r (zone Z119 wz120 :: L) w → Kx262 ac w := by
        intro ht ac w hA hS
        subst ht
        replace hF : law03_ColumnReals_x1_0 = some y := hF
        unfold law03_ColumnReals_x1_0 at hF
        exact hb1 hF ac w (hA.sub _ rfl) hS
      refine wp_loop_fn hl360 (fun s ac w => FR 55 [] ac [(0, .slice A0 n0 c0), (4, .slice B126 m127 d128), (6, .int .i64 s)] ∧ SH r (own kF 53 B126 m127 d128 y124.1 :: zone Z119 wz120 :: L) w) ⟨hA.sub _ rfl, hS⟩ ?_
      intro N360 s360 o360 hF N360_ T360_ ac w hLab
      obtain ⟨x341, rfl⟩ : ∃ q, q = s360 := ⟨_, rfl⟩
      replace hF : law03_ColumnReals_l1 a0 y124 x341 = some o360 := hF
      unfold law03_ColumnReals_l1 at hF
      try dsimp only at hLab
      obtain ⟨hA, hS⟩ := hLab
      refine wp_seq_k fun K362 hK362 => ?_
      refine wp_seq_k fun K363 hK363 => ?_
      refine wp_reg ?_
      refine x_move hA (fun ac hA => ?_) rfl rfl rfl rfl rfl
      refine x_move hA (fun ac hA => ?_) rfl rfl rfl rfl rfl
      refine x_len Try.underlying48 (hS.imm 1 h123 rfl).2.1 hA (fun ac hA => ?_) rfl rfl rfl rfl rfl
      refine x_val hA (r_ltI rfl (hA.ev rfl) (hA.ev rfl)) (fun ac hA => ?_) rfl rfl rfl
      refine wpList_nil ?_
      refine hK363 _ _ ?_
      refine c_if hA rfl (fun hb364 => ?_) fun hb364 => ?_
      · replace hF := ift hb364 hF
        refine wp_skip ?_
        refine hK362 _ _ ?_
        refine wp_seq_k fun K365 hK365 => ?_
        refine wp_block_k fun Kx366 hKx366 => ?_
        refine wp_seq_k fun K367 hK367 => ?_
        refine wp_draw [0, 0, 3, 7, 0, 0, 48, 112, 255, 511] [8] rfl hA hS (by kernel_rfl) (by kernel_rfl) (by kernel_rfl) (by kernel_rfl) fun w hS => ?_
        obtain ⟨x368, h369, hF⟩ := bnd hF
        obtain ⟨cs, hV, hc370⟩ := el (hS.imm 1 h123 rfl) h369
        obtain rfl := hV
        obtain ⟨x371, h372, hF⟩ := bnd hF
        obtain ⟨cs, hV, hc373⟩ := el (hS.rd 0 rfl) h372
        obtain rfl := hV
        refine ⟨[(0, .slice A0 n0 c0), (1, .int .i64 x341), (2, .pointer (some (ea A0 (x341.toNat * 1)))), (3, .float .f64 x368), (4, .slice B126 m127 d128), (5, .int .i64 x341), (6, .pointer (some (ea B126 (x341.toNat * 1)))), (7, .float .f64 x371)], ?_⟩
        refine dEff [0, 1, 2, 3, 4, 5, 6, 7] [8] (by kernel_rfl) ⟨pu rfl rfl [(0, .slice A0 n0 c0)] (fun ac hA => y_move hA rfl rfl) rfl rfl, pu rfl rfl [(6, .int .i64 x341)] (fun ac hA => y_move hA rfl rfl) rfl rfl, pu rfl rfl [(45, .slice A0 n0 c0), (46, .int .i64 x341)] (fun ac hA => y_ia Try.underlying48 sz53 (hS.imm 1 h123 rfl) h369 hA rfl rfl rfl) rfl rfl, pu rfl rfl [(47, .pointer (some (ea A0 (x341.toNat * 1))))] (fun ac hA => y_ld Try.underlying53 (hc370 0 _ rfl) hA rfl rfl rfl) rfl rfl, pu rfl rfl [(4, .slice B126 m127 d128)] (fun ac hA => y_move hA rfl rfl) rfl rfl, pu rfl rfl [(6, .int .i64 x341)] (fun ac hA => y_move hA rfl rfl) rfl rfl, pu rfl rfl [(49, .slice B126 m127 d128), (50, .int .i64 x341)] (fun ac hA => y_ia Try.underlying48 sz53 (hS.rd 0 rfl) h372 hA rfl rfl rfl) rfl rfl, pu rfl rfl [(51, .pointer (some (ea B126 (x341.toNat * 1))))] (fun ac hA => y_ld Try.underlying53 (hc373 0 _ rfl) hA rfl rfl rfl) rfl rfl, trivial⟩ (by kernel_rfl) (by kernel_rfl) ⟨ef rfl [(48, .float .f64 x368), (52, .float .f64 x371)] (fun ac hA K hK => ?_) rfl rfl, trivial⟩
        obtain ⟨y374, h375, hF⟩ := bnd hF
        refine z_call en31 hA (F_r01_Same (L := own kF 53 B126 m127 d128 y124.1 :: zone Z119 wz120 :: L) x368 x371 h375 hS) (fun v w hR => ?_) rfl rfl
        obtain ⟨rfl, hS⟩ := hR
        refine hK _ [(9, .bool (!y374))] _ rfl ?_
        refine dEnd [9] (by kernel_rfl) ⟨pu rfl rfl [(53, .bool y374)] (fun ac hA => r_not rfl (hA.ev rfl)) rfl rfl, trivial⟩ ⟨by kernel_rfl, by kernel_rfl⟩ [(0, .slice A0 n0 c0), (4, .slice B126 m127 d128), (6, .int .i64 x341), (54, .bool (!y374))] rfl (fun ac hA => ?_)
        refine hK367 _ _ ?_
        refine c_if hA rfl (fun hb376 => ?_) fun hb376 => ?_
        · replace hF := ift hb376 hF
          refine wp_seq_k fun K377 hK377 => ?_
          refine wp_reg ?_
          refine x_assign hA (fun ac hA => ?_) rfl rfl rfl rfl rfl
          refine wpList_nil ?_
          refine hK377 _ _ ?_
          refine wp_ret ?_
          replace hS := hS.drop 0
          cases hF
          have ht := T360_ _ rfl
          subst ht
          replace hF := hR360
          replace hF : some false = some y := hF
          cases hF
          refine hQ _ _ ?_
          refine lv Try.results7 hA rfl ?_
          exact ⟨Z119, wz120, rfl, sb122, hS⟩
        replace hF := iff' hb376 hF
        refine wp_skip ?_
        refine hKx366 _ _ ?_
        refine hK365 _ _ ?_
        refine wp_reg ?_
        refine x_move hA (fun ac hA => ?_) rfl rfl rfl rfl rfl
        obtain ⟨x378, h379, hF⟩ := ltt_ hF
        refine x_val (v := .int .i64 x378) hA (rv_i h379 (r_add rfl (hA.ev rfl) (hA.ev rfl))) (fun ac hA => ?_) rfl rfl rfl
        refine x_assign hA (fun ac hA => ?_) rfl rfl rfl rfl rfl
        refine wpList_nil ?_
        cases hF
        exact ⟨_, N360_ _ rfl, hA.sub _ rfl, hS⟩
      replace hF := iff' hb364 hF
      refine wp_exit ?_
      replace hS := hS.drop 0
      cases hF
      exact hx360_0 (T360_ _ rfl) ac w (hA.sub _ rfl) hS
    refine wp_draw [0, 1, 0, 4, 12, 31, 63, 127, 255, 511, 1023, 2047, 4095, 2047, 10239, 32767, 65535] [3] rfl hA hS (by kernel_rfl) (by kernel_rfl) (by kernel_rfl) (by kernel_rfl) fun w hS => ?_
    refine ⟨[(0, .slice B115 m116 d117), (1, str (bts y113)), (2, .slice A0 n0 c0)], ?_⟩
    refine dEff [0, 1, 2] [3] (by kernel_rfl) ⟨pu rfl rfl [(3, .slice B115 m116 d117)] (fun ac hA => y_move hA rfl rfl) rfl rfl, pu rfl rfl [(22, .slice B115 m116 d117)] (fun ac hA => y_b2s Try.underlying22 Try.underlying5 Try.underlying9 (hS.imm 1 h121 rfl) hA rfl rfl) rfl rfl, pu rfl rfl [(0, .slice A0 n0 c0)] (fun ac hA => y_move hA rfl rfl) rfl rfl, trivial⟩ (by kernel_rfl) (by kernel_rfl) ⟨ef rfl [(24, .slice A0 n0 c0)] (fun ac hA K hK => ?_) rfl rfl, trivial⟩
    obtain ⟨y380, h381, hF⟩ := bnd hF
    refine z_call en30 hA (F_r03_Reals (L := own kF 53 B126 m127 d128 y124.1 :: zone Z119 wz120 :: L) a0 A0 n0 c0 h381 (h123.rdl 1 rfl) hS) (fun v w hR => ?_) rfl rfl
    obtain ⟨B382, m383, d384, rfl, hS⟩ := hR
    refine bcase (b := !((bts y113) == (bts y380))) (fun hb385 => ?_) fun hb385 => ?_
    · replace hF := ift hb385 hF
      refine hK _ [(4, str (bts y380)), (5, .bool (!((bts y113) == (bts y380)))), (6, .bool (!((bts y113) == (bts y380)))), (7, undef), (8, undef), (9, .bool true), (10, .bool true), (11, undef), (12, undef), (13, undef), (14, undef), (15, undef), (16, .bool true)] _ rfl ?_
      refine dEnd [0, 1, 4, 5, 6, 7, 8, 9, 10, 11, 12, 13, 14, 15, 16] (by kernel_rfl) ⟨pu rfl rfl [(3, .slice B115 m116 d117)] (fun ac hA => y_move hA rfl rfl) rfl rfl, pu rfl rfl [(22, .slice B115 m116 d117)] (fun ac hA => y_b2s Try.underlying22 Try.underlying5 Try.underlying9 (hS.imm 2 h121 rfl) hA rfl rfl) rfl rfl, pu rfl rfl [(25, .slice B382 m383 d384)] (fun ac hA => y_b2s Try.underlying22 Try.underlying5 Try.underlying9 (hS.rd 0 rfl) hA rfl rfl) rfl rfl, pu rfl rfl [(23, str (bts y113)), (26, str (bts y380))] (fun ac hA => r_neS rfl (hA.ev rfl) (hA.ev rfl)) rfl rfl, pu rfl rfl [(27, .bool (!((bts y113) == (bts y380))))] (fun ac hA => y_move hA rfl rfl) rfl rfl, puOff rfl rfl rfl rfl [(5, .int .i64 y124.2), (28, .bool (!((bts y113) == (bts y380))))] rfl hb385 rfl, puOff rfl rfl rfl rfl [(28, .bool (!((bts y113) == (bts y380)))), (29, undef)] rfl hb385 rfl, pu rfl rfl [(28, .bool (!((bts y113) == (bts y380)))), (30, undef)] (fun ac hA => y_pickt hb385 hA rfl rfl rfl) rfl rfl, pu rfl rfl [(31, .bool true)] (fun ac hA => y_move hA rfl rfl) rfl rfl, puOff rfl rfl rfl rfl [(4, .slice B126 m127 d128), (32, .bool true)] rfl rfl rfl, puOff rfl rfl rfl rfl [(32, .bool true), (33, undef)] rfl rfl rfl, puOff rfl rfl rfl rfl [(0, .slice A0 n0 c0), (32, .bool true)] rfl rfl rfl, puOff rfl rfl rfl rfl [(32, .bool true), (35, undef)] rfl rfl rfl, puOff rfl rfl rfl rfl [(32, .bool true), (34, undef), (36, undef)] rfl rfl rfl, pu rfl rfl [(32, .bool true), (37, undef)] (fun ac hA => y_pickt rfl hA rfl rfl rfl) rfl rfl, trivial⟩ ⟨by kernel_rfl, by kernel_rfl⟩ [(0, .slice A0 n0 c0), (4, .slice B126 m127 d128), (38, .bool true)] rfl (fun ac hA => ?_)
      replace hS := hS.drop 0
      exact hj2 true hF ac w (hA.sub _ rfl) hS
    replace hF := iff' hb385 hF
    refine bcase (b := y124.2 != 0) (fun hb386 => ?_) fun hb386 => ?_
    · replace hF := ift hb386 hF
      refine hK _ [(4, str (bts y380)), (5, .bool (!((bts y113) == (bts y380)))), (6, .bool (!((bts y113) == (bts y380)))), (7, .int .i64 y124.2), (8, .bool (y124.2 != 0)), (9, .bool (y124.2 != 0)), (10, .bool (y124.2 != 0)), (11, undef), (12, undef), (13, undef), (14, undef), (15, undef), (16, .bool true)] _ rfl ?_
      refine dEnd [0, 1, 4, 5, 6, 7, 8, 9, 10, 11, 12, 13, 14, 15, 16] (by kernel_rfl) ⟨pu rfl rfl [(3, .slice B115 m116 d117)] (fun ac hA => y_move hA rfl rfl) rfl rfl, pu rfl rfl [(22, .slice B115 m116 d117)] (fun ac hA => y_b2s Try.underlying22 Try.underlying5 Try.underlying9 (hS.imm 2 h121 rfl) hA rfl rfl) rfl rfl, pu rfl rfl [(25, .slice B382 m383 d384)] (fun ac hA => y_b2s Try.underlying22 Try.underlying5 Try.underlying9 (hS.rd 0 rfl) hA rfl rfl) rfl rfl, pu rfl rfl [(23, str (bts y113)), (26, str (bts y380))] (fun ac hA => r_neS rfl (hA.ev rfl) (hA.ev rfl)) rfl rfl, pu rfl rfl [(27, .bool (!((bts y113) == (bts y380))))] (fun ac hA => y_move hA rfl rfl) rfl rfl, puOn rfl rfl rfl rfl [(5, .int .i64 y124.2), (28, .bool (!((bts y113) == (bts y380))))] rfl hb385 (fun ac hA => y_move hA rfl rfl) rfl, puOn rfl rfl rfl rfl [(28, .bool (!((bts y113) == (bts y380)))), (29, .int .i64 y124.2)] rfl hb385 (fun ac hA => r_neI rfl (hA.ev rfl) (hA.ev rfl)) rfl, pu rfl rfl [(28, .bool (!((bts y113) == (bts y380)))), (30, .bool (y124.2 != 0))] (fun ac hA => y_pickf hb385 hA rfl rfl rfl) rfl rfl, pu rfl rfl [(31, .bool (y124.2 != 0))] (fun ac hA => y_move hA rfl rfl) rfl rfl, puOff rfl rfl rfl rfl [(4, .slice B126 m127 d128), (32, .bool (y124.2 != 0))] rfl hb386 rfl, puOff rfl rfl rfl rfl [(32, .bool (y124.2 != 0)), (33, undef)] rfl hb386 rfl, puOff rfl rfl rfl rfl [(0, .slice A0 n0 c0), (32, .bool (y124.2 != 0))] rfl hb386 rfl, puOff rfl rfl rfl rfl [(32, .bool (y124.2 != 0)), (35, undef)] rfl hb386 rfl, puOff rfl rfl rfl rfl [(32, .bool (y124.2 != 0)), (34, undef), (36, undef)] rfl hb386 rfl, pu rfl rfl [(32, .bool (y124.2 != 0)), (37, undef)] (fun ac hA => y_pickt hb386 hA rfl rfl rfl) rfl rfl, trivial⟩ ⟨by kernel_rfl, by kernel_rfl⟩ [(0, .slice A0 n0 c0), (4, .slice B126 m127 d128), (38, .bool true)] rfl (fun ac hA => ?_)
      replace hS := hS.drop 0
      exact hj2 true hF ac w (hA.sub _ rfl) hS
    replace hF := iff' hb386 hF
    refine hK _ [(4, str (bts y380)), (5, .bool (!((bts y113) == (bts y380)))), (6, .bool (!((bts y113) == (bts y380)))), (7, .int .i64 y124.2), (8, .bool (y124.2 != 0)), (9, .bool (y124.2 != 0)), (10, .bool (y124.2 != 0)), (11, .slice B126 m127 d128), (12, .int .i64 (y124.1.length : Int)), (13, .slice A0 n0 c0), (14, .int .i64 (a0.length : Int)), (15, .bool ((y124.1.length : Int) != (a0.length : Int))), (16, .bool ((y124.1.length : Int) != (a0.length : Int)))] _ rfl ?_
    refine dEnd [0, 1, 4, 5, 6, 7, 8, 9, 10, 11, 12, 13, 14, 15, 16] (by kernel_rfl) ⟨pu rfl rfl [(3, .slice B115 m116 d117)] (fun ac hA => y_move hA rfl rfl) rfl rfl, pu rfl rfl [(22, .slice B115 m116 d117)] (fun ac hA => y_b2s Try.underlying22 Try.underlying5 Try.underlying9 (hS.imm 2 h121 rfl) hA rfl rfl) rfl rfl, pu rfl rfl [(25, .slice B382 m383 d384)] (fun ac hA => y_b2s Try.underlying22 Try.underlying5 Try.underlying9 (hS.rd 0 rfl) hA rfl rfl) rfl rfl, pu rfl rfl [(23, str (bts y113)), (26, str (bts y380))] (fun ac hA => r_neS rfl (hA.ev rfl) (hA.ev rfl)) rfl rfl, pu rfl rfl [(27, .bool (!((bts y113) == (bts y380))))] (fun ac hA => y_move hA rfl rfl) rfl rfl, puOn rfl rfl rfl rfl [(5, .int .i64 y124.2), (28, .bool (!((bts y113) == (bts y380))))] rfl hb385 (fun ac hA => y_move hA rfl rfl) rfl, puOn rfl rfl rfl rfl [(28, .bool (!((bts y113) == (bts y380)))), (29, .int .i64 y124.2)] rfl hb385 (fun ac hA => r_neI rfl (hA.ev rfl) (hA.ev rfl)) rfl, pu rfl rfl [(28, .bool (!((bts y113) == (bts y380)))), (30, .bool (y124.2 != 0))] (fun ac hA => y_pickf hb385 hA rfl rfl rfl) rfl rfl, pu rfl rfl [(31, .bool (y124.2 != 0))] (fun ac hA => y_move hA rfl rfl) rfl rfl, puOn rfl rfl rfl rfl [(4, .slice B126 m127 d128), (32, .bool (y124.2 != 0))] rfl hb386 (fun ac hA => y_move hA rfl rfl) rfl, puOn rfl rfl rfl rfl [(32, .bool (y124.2 != 0)), (33, .slice B126 m127 d128)] rfl hb386 (fun ac hA => y_len Try.underlying48 (hS.rd 1 rfl).2.1 hA rfl rfl) rfl, puOn rfl rfl rfl rfl [(0, .slice A0 n0 c0), (32, .bool (y124.2 != 0))] rfl hb386 (fun ac hA => y_move hA rfl rfl) rfl, puOn rfl rfl rfl rfl [(32, .bool (y124.2 != 0)), (35, .slice A0 n0 c0)] rfl hb386 (fun ac hA => y_len Try.underlying48 (hS.imm 2 h123 rfl).2.1 hA rfl rfl) rfl, puOn rfl rfl rfl rfl [(32, .bool (y124.2 != 0)), (34, .int .i64 (y124.1.length : Int)), (36, .int .i64 (a0.length : Int))] rfl hb386 (fun ac hA => r_neI rfl (hA.ev rfl) (hA.ev rfl)) rfl, pu rfl rfl [(32, .bool (y124.2 != 0)), (37, .bool ((y124.1.length : Int) != (a0.length : Int)))] (fun ac hA => y_pickf hb386 hA rfl rfl rfl) rfl rfl, trivial⟩ ⟨by kernel_rfl, by kernel_rfl⟩ [(0, .slice A0 n0 c0), (4, .slice B126 m127 d128), (38, .bool ((y124.1.length : Int) != (a0.length : Int)))] rfl (fun ac hA => ?_)
    replace hS := hS.drop 0
    exact hj2 ((y124.1.length : Int) != (a0.length : Int)) hF ac w (hA.sub _ rfl) hS
  refine wp_reg ?_
  obtain ⟨y387, h388, hF⟩ := bnd hF
  refine x_call en10 hA (F_law03_awake (L := zone Z wz :: L) h388 hS) (fun v ac w hR hA => ?_) rfl rfl rfl rfl rfl
  obtain ⟨rfl, hS⟩ := hR
  refine x_val hA (r_not rfl (hA.ev rfl)) (fun ac hA => ?_) rfl rfl rfl
  refine x_move hA (fun ac hA => ?_) rfl rfl rfl rfl rfl
  refine bcase (b := !y387) (fun hb389 => ?_) fun hb389 => ?_
  · replace hF := ift hb389 hF
    refine x_off hb389 hA (fun ac hA => ?_) rfl rfl rfl rfl rfl
    refine x_off hb389 hA (fun ac hA => ?_) rfl rfl rfl rfl rfl
    refine x_off hb389 hA (fun ac hA => ?_) rfl rfl rfl rfl rfl
    refine x_pickt hb389 hA (fun ac hA => ?_) rfl rfl rfl rfl rfl rfl
    refine wpList_nil ?_
    exact hj1 true hF ac w (hA.sub _ rfl) hS
  replace hF := iff' hb389 hF
  refine x_on hb389 hA ?_ rfl rfl rfl
  refine x_move hA (fun ac hA => ?_) rfl rfl rfl rfl rfl
  refine x_on hb389 hA ?_ rfl rfl rfl
  refine x_len Try.underlying48 (hS.imm 0 ha0 rfl).2.1 hA (fun ac hA => ?_) rfl rfl rfl rfl rfl
  refine x_on hb389 hA ?_ rfl rfl rfl
  refine x_val hA (r_gtI rfl (hA.ev rfl) (hA.ev rfl)) (fun ac hA => ?_) rfl rfl rfl
  refine x_pickf hb389 hA (fun ac hA => ?_) rfl rfl rfl rfl rfl rfl
  refine wpList_nil ?_
  exact hj1 (decide (200 < (a0.length : Int))) hF ac w (hA.sub _ rfl) hS
end Go.Proofs.Ythokgnonmcgkcaa.M
