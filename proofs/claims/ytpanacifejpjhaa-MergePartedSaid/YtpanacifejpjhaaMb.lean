/- The calls come to the plain functions. -/
import Derived.Test.YtpanacifejpjhaaMa
import Derived.Test.YtpanacifejpjhaaDb
namespace Go.Proofs.Ytpanacifejpjhaa.M
open Go Go.RowKit Go.Proofs.Ytpanacifejpjhaa.E
set_option linter.unusedVariables false
set_option linter.unusedSimpArgs false

set_option maxHeartbeats 4000000 in
theorem F_r01_Bits {r : World} {L : List HP} {w : World} (a0 : Nat) {y : (Int)} (hF : r01_Bits a0 = some y) (hS : SH r (L) w) :
    Ret Try.prog 31 #[.float .f64 a0] w fun v w' => v = .int .u64 y ∧ SH r (L) w' := by
  refine enter Try.func31 rfl Try.ntmps31 [(0, .float .f64 a0)] rfl (by simp) ?_
  intro ac hA Qf hQ hQn
  unfold r01_Bits at hF
  refine wp_seq_k fun K101 hK101 => ?_
  refine wp_reg ?_
  refine x_assign hA (fun ac hA => ?_) rfl rfl rfl rfl rfl
  refine wpList_nil ?_
  refine hK101 _ _ ?_
  refine wp_seq_k fun K102 hK102 => ?_
  refine wp_reg ?_
  refine x_move hA (fun ac hA => ?_) rfl rfl rfl rfl rfl
  refine x_val hA (r_ext (ex34 _) rfl (evs hA rfl)) (fun ac hA => ?_) rfl rfl rfl
  refine x_assign hA (fun ac hA => ?_) rfl rfl rfl rfl rfl
  refine wpList_nil ?_
  refine hK102 _ _ ?_
  refine wp_seq_k fun K103 hK103 => ?_
  refine wp_seq_k fun K104 hK104 => ?_
  have hj1 : ∀ (b106 : Bool), r01_Bits_j1 a0 b106 = some y → ∀ (ac : Act) (w : World), FR 16 [] ac [(3, .int .u64 (a0 : Int)), (14, .bool b106)] → SH r (L) w → K104 ac w := by
    intro b106 hF ac w hA hS
    unfold r01_Bits_j1 at hF
    refine hK104 _ _ ?_
    refine c_if hA rfl (fun hb107 => ?_) fun hb107 => ?_
    · replace hF := ift hb107 hF
      refine wp_seq_k fun K108 hK108 => ?_
      refine wp_reg ?_
      refine x_assign hA (fun ac hA => ?_) rfl rfl rfl rfl rfl
      refine wpList_nil ?_
      refine hK108 _ _ ?_
      refine wp_ret ?_
      cases hF
      refine hQ _ _ ?_
      refine lv Try.results31 hA rfl ?_
      exact ⟨rfl, hS⟩
    replace hF := iff' hb107 hF
    refine wp_skip ?_
    refine hK103 _ _ ?_
    refine wp_seq_k fun K109 hK109 => ?_
    refine wp_reg ?_
    refine x_move hA (fun ac hA => ?_) rfl rfl rfl rfl rfl
    refine x_assign hA (fun ac hA => ?_) rfl rfl rfl rfl rfl
    refine wpList_nil ?_
    refine hK109 _ _ ?_
    refine wp_ret ?_
    cases hF
    refine hQ _ _ ?_
    refine lv Try.results31 hA rfl ?_
    exact ⟨rfl, hS⟩
  refine wp_reg ?_
  refine x_move hA (fun ac hA => ?_) rfl rfl rfl rfl rfl
  refine x_val hA (r_shr rfl (hA.ev rfl) (hA.ev rfl) (by decide)) (fun ac hA => ?_) rfl rfl rfl
  refine x_val hA (r_rem rfl (hA.ev rfl) (hA.ev rfl) (by decide)) (fun ac hA => ?_) rfl rfl rfl
  refine x_val hA (r_eqI rfl (hA.ev rfl) (hA.ev rfl)) (fun ac hA => ?_) rfl rfl rfl
  refine x_move hA (fun ac hA => ?_) rfl rfl rfl rfl rfl
  refine bcase (b := ((ishr .u64 (a0 : Int) 52).tmod 2048) == 2047) (fun hb110 => ?_) fun hb110 => ?_
  · replace hF := ift hb110 hF
    refine x_on hb110 hA ?_ rfl rfl rfl
    refine x_move hA (fun ac hA => ?_) rfl rfl rfl rfl rfl
    refine x_on hb110 hA ?_ rfl rfl rfl
    refine x_val hA (r_rem rfl (hA.ev rfl) (hA.ev rfl) (by decide)) (fun ac hA => ?_) rfl rfl rfl
    refine x_on hb110 hA ?_ rfl rfl rfl
    refine x_val hA (r_neI rfl (hA.ev rfl) (hA.ev rfl)) (fun ac hA => ?_) rfl rfl rfl
    refine x_pickt hb110 hA (fun ac hA => ?_) rfl rfl rfl rfl rfl rfl
    refine wpList_nil ?_
    exact hj1 (((a0 : Int).tmod 4503599627370496) != 0) hF ac w (hA.sub _ rfl) hS
  replace hF := iff' hb110 hF
  refine x_off hb110 hA (fun ac hA => ?_) rfl rfl rfl rfl rfl
  refine x_off hb110 hA (fun ac hA => ?_) rfl rfl rfl rfl rfl
  refine x_off hb110 hA (fun ac hA => ?_) rfl rfl rfl rfl rfl
  refine x_pickf hb110 hA (fun ac hA => ?_) rfl rfl rfl rfl rfl rfl
  refine wpList_nil ?_
  exact hj1 false hF ac w (hA.sub _ rfl) hS

set_option maxHeartbeats 4000000 in
theorem F_r01_Same {r : World} {L : List HP} {w : World} (a0 : Nat) (a1 : Nat) {y : (Bool)} (hF : r01_Same a0 a1 = some y) (hS : SH r (L) w) :
    Ret Try.prog 26 #[.float .f64 a0, .float .f64 a1] w fun v w' => v = .bool y ∧ SH r (L) w' := by
  refine enter Try.func26 rfl Try.ntmps26 [(0, .float .f64 a0), (1, .float .f64 a1)] rfl (by simp) ?_
  intro ac hA Qf hQ hQn
  unfold r01_Same at hF
  refine wp_seq_k fun K101 hK101 => ?_
  refine wp_reg ?_
  refine x_assign hA (fun ac hA => ?_) rfl rfl rfl rfl rfl
  refine wpList_nil ?_
  refine hK101 _ _ ?_
  refine wp_seq_k fun K102 hK102 => ?_
  refine wp_reg ?_
  refine x_move hA (fun ac hA => ?_) rfl rfl rfl rfl rfl
  obtain ⟨y103, h104, hF⟩ := bnd hF
  refine x_call en31 hA (F_r01_Bits (L := L) a0 h104 hS) (fun v ac w hR hA => ?_) rfl rfl rfl rfl rfl
  obtain ⟨rfl, hS⟩ := hR
  refine x_move hA (fun ac hA => ?_) rfl rfl rfl rfl rfl
  obtain ⟨y105, h106, hF⟩ := bnd hF
  refine x_call en31 hA (F_r01_Bits (L := L) a1 h106 hS) (fun v ac w hR hA => ?_) rfl rfl rfl rfl rfl
  obtain ⟨rfl, hS⟩ := hR
  refine x_val hA (r_eqI rfl (hA.ev rfl) (hA.ev rfl)) (fun ac hA => ?_) rfl rfl rfl
  refine x_assign hA (fun ac hA => ?_) rfl rfl rfl rfl rfl
  refine wpList_nil ?_
  refine hK102 _ _ ?_
  refine wp_ret ?_
  cases hF
  refine hQ _ _ ?_
  refine lv Try.results26 hA rfl ?_
  exact ⟨rfl, hS⟩

set_option maxHeartbeats 4000000 in
theorem F_r06_Same {r : World} {L : List HP} {w : World} (a0 : S30) (a1 : S30) {y : (Bool)} (hF : r06_Same a0 a1 = some y) (hS : SH r (L) w) :
    Ret Try.prog 18 #[.agg #[.int .u64 a0.f0, .int .i64 a0.f1, .int .i64 a0.f2, str a0.f3, .float .f64 a0.f4], .agg #[.int .u64 a1.f0, .int .i64 a1.f1, .int .i64 a1.f2, str a1.f3, .float .f64 a1.f4]] w fun v w' => v = .bool y ∧ SH r (L) w' := by
  refine enter Try.func18 rfl Try.ntmps18 [(0, .agg #[.int .u64 a0.f0, .int .i64 a0.f1, .int .i64 a0.f2, str a0.f3, .float .f64 a0.f4]), (1, .agg #[.int .u64 a1.f0, .int .i64 a1.f1, .int .i64 a1.f2, str a1.f3, .float .f64 a1.f4])] rfl (by simp) ?_
  intro ac hA Qf hQ hQn
  unfold r06_Same at hF
  refine wp_seq_k fun K101 hK101 => ?_
  refine wp_reg ?_
  refine x_box hA hS (fun g102 ac w hS hA => ?_) rfl rfl rfl rfl rfl rfl
  refine x_box hA hS (fun g103 ac w hS hA => ?_) rfl rfl rfl rfl rfl rfl
  refine x_assign hA (fun ac hA => ?_) rfl rfl rfl rfl rfl
  refine wpList_nil ?_
  refine hK101 _ _ ?_
  refine wp_seq_k fun K104 hK104 => ?_
  refine wp_reg ?_
  refine x_fab fa30_0 hA (fun ac hA => ?_) rfl rfl rfl rfl rfl
  refine x_ld Try.underlying27 (hS.cell 1 rfl 0 _ rfl) hA (fun ac hA => ?_) rfl rfl rfl rfl rfl rfl
  refine x_fab fa30_0 hA (fun ac hA => ?_) rfl rfl rfl rfl rfl
  refine x_ld Try.underlying27 (hS.cell 0 rfl 0 _ rfl) hA (fun ac hA => ?_) rfl rfl rfl rfl rfl rfl
  refine x_val hA (r_eqI rfl (hA.ev rfl) (hA.ev rfl)) (fun ac hA => ?_) rfl rfl rfl
  refine x_move hA (fun ac hA => ?_) rfl rfl rfl rfl rfl
  refine bcase (b := a0.f0 == a1.f0) (fun hb105 => ?_) fun hb105 => ?_
  · replace hF := ift hb105 hF
    refine x_on hb105 hA ?_ rfl rfl rfl
    refine x_fab fa30_1 hA (fun ac hA => ?_) rfl rfl rfl rfl rfl
    refine x_on hb105 hA ?_ rfl rfl rfl
    refine x_ld Try.underlying3 (hS.cell 1 rfl 1 _ rfl) hA (fun ac hA => ?_) rfl rfl rfl rfl rfl rfl
    refine x_on hb105 hA ?_ rfl rfl rfl
    refine x_fab fa30_1 hA (fun ac hA => ?_) rfl rfl rfl rfl rfl
    refine x_on hb105 hA ?_ rfl rfl rfl
    refine x_ld Try.underlying3 (hS.cell 0 rfl 1 _ rfl) hA (fun ac hA => ?_) rfl rfl rfl rfl rfl rfl
    refine x_on hb105 hA ?_ rfl rfl rfl
    refine x_val hA (r_eqI rfl (hA.ev rfl) (hA.ev rfl)) (fun ac hA => ?_) rfl rfl rfl
    refine x_pickt hb105 hA (fun ac hA => ?_) rfl rfl rfl rfl rfl rfl
    refine x_move hA (fun ac hA => ?_) rfl rfl rfl rfl rfl
    refine bcase (b := a0.f1 == a1.f1) (fun hb106 => ?_) fun hb106 => ?_
    · replace hF := ift hb106 hF
      refine x_on hb106 hA ?_ rfl rfl rfl
      refine x_fab fa30_2 hA (fun ac hA => ?_) rfl rfl rfl rfl rfl
      refine x_on hb106 hA ?_ rfl rfl rfl
      refine x_ld Try.underlying2 (hS.cell 1 rfl 2 _ rfl) hA (fun ac hA => ?_) rfl rfl rfl rfl rfl rfl
      refine x_on hb106 hA ?_ rfl rfl rfl
      refine x_fab fa30_2 hA (fun ac hA => ?_) rfl rfl rfl rfl rfl
      refine x_on hb106 hA ?_ rfl rfl rfl
      refine x_ld Try.underlying2 (hS.cell 0 rfl 2 _ rfl) hA (fun ac hA => ?_) rfl rfl rfl rfl rfl rfl
      refine x_on hb106 hA ?_ rfl rfl rfl
      refine x_val hA (r_eqI rfl (hA.ev rfl) (hA.ev rfl)) (fun ac hA => ?_) rfl rfl rfl
      refine x_pickt hb106 hA (fun ac hA => ?_) rfl rfl rfl rfl rfl rfl
      refine x_move hA (fun ac hA => ?_) rfl rfl rfl rfl rfl
      refine bcase (b := a0.f2 == a1.f2) (fun hb107 => ?_) fun hb107 => ?_
      · replace hF := ift hb107 hF
        refine x_on hb107 hA ?_ rfl rfl rfl
        refine x_fab fa30_3 hA (fun ac hA => ?_) rfl rfl rfl rfl rfl
        refine x_on hb107 hA ?_ rfl rfl rfl
        refine x_ld Try.underlying9 (hS.cell 1 rfl 3 _ rfl) hA (fun ac hA => ?_) rfl rfl rfl rfl rfl rfl
        refine x_on hb107 hA ?_ rfl rfl rfl
        refine x_fab fa30_3 hA (fun ac hA => ?_) rfl rfl rfl rfl rfl
        refine x_on hb107 hA ?_ rfl rfl rfl
        refine x_ld Try.underlying9 (hS.cell 0 rfl 3 _ rfl) hA (fun ac hA => ?_) rfl rfl rfl rfl rfl rfl
        refine x_on hb107 hA ?_ rfl rfl rfl
        refine x_val hA (r_eqS rfl (hA.ev rfl) (hA.ev rfl)) (fun ac hA => ?_) rfl rfl rfl
        refine x_pickt hb107 hA (fun ac hA => ?_) rfl rfl rfl rfl rfl rfl
        refine x_move hA (fun ac hA => ?_) rfl rfl rfl rfl rfl
        refine bcase (b := a0.f3 == a1.f3) (fun hb108 => ?_) fun hb108 => ?_
        · replace hF := ift hb108 hF
          refine x_on hb108 hA ?_ rfl rfl rfl
          refine x_fab fa30_4 hA (fun ac hA => ?_) rfl rfl rfl rfl rfl
          refine x_on hb108 hA ?_ rfl rfl rfl
          refine x_ld Try.underlying28 (hS.cell 1 rfl 4 _ rfl) hA (fun ac hA => ?_) rfl rfl rfl rfl rfl rfl
          refine x_on hb108 hA ?_ rfl rfl rfl
          refine x_fab fa30_4 hA (fun ac hA => ?_) rfl rfl rfl rfl rfl
          refine x_on hb108 hA ?_ rfl rfl rfl
          refine x_ld Try.underlying28 (hS.cell 0 rfl 4 _ rfl) hA (fun ac hA => ?_) rfl rfl rfl rfl rfl rfl
          refine x_on hb108 hA ?_ rfl rfl rfl
          obtain ⟨y109, h110, hF⟩ := bnd hF
          refine x_call en26 hA (F_r01_Same (L := blk g103 30 [.int .u64 a1.f0, .int .i64 a1.f1, .int .i64 a1.f2, str a1.f3, .float .f64 a1.f4] :: blk g102 30 [.int .u64 a0.f0, .int .i64 a0.f1, .int .i64 a0.f2, str a0.f3, .float .f64 a0.f4] :: L) a0.f4 a1.f4 h110 hS) (fun v ac w hR hA => ?_) rfl rfl rfl rfl rfl
          obtain ⟨rfl, hS⟩ := hR
          refine x_pickt hb108 hA (fun ac hA => ?_) rfl rfl rfl rfl rfl rfl
          refine x_assign hA (fun ac hA => ?_) rfl rfl rfl rfl rfl
          refine wpList_nil ?_
          refine hK104 _ _ ?_
          refine wp_ret ?_
          replace hS := hS.drop 0
          replace hS := hS.drop 0
          cases hF
          refine hQ _ _ ?_
          refine lv Try.results18 hA rfl ?_
          exact ⟨rfl, hS⟩
        replace hF := iff' hb108 hF
        refine x_off hb108 hA (fun ac hA => ?_) rfl rfl rfl rfl rfl
        refine x_off hb108 hA (fun ac hA => ?_) rfl rfl rfl rfl rfl
        refine x_off hb108 hA (fun ac hA => ?_) rfl rfl rfl rfl rfl
        refine x_off hb108 hA (fun ac hA => ?_) rfl rfl rfl rfl rfl
        refine x_off hb108 hA (fun ac hA => ?_) rfl rfl rfl rfl rfl
        refine x_pickf hb108 hA (fun ac hA => ?_) rfl rfl rfl rfl rfl rfl
        refine x_assign hA (fun ac hA => ?_) rfl rfl rfl rfl rfl
        refine wpList_nil ?_
        refine hK104 _ _ ?_
        refine wp_ret ?_
        replace hS := hS.drop 0
        replace hS := hS.drop 0
        cases hF
        refine hQ _ _ ?_
        refine lv Try.results18 hA rfl ?_
        exact ⟨rfl, hS⟩
      replace hF := iff' hb107 hF
      refine x_off hb107 hA (fun ac hA => ?_) rfl rfl rfl rfl rfl
      refine x_off hb107 hA (fun ac hA => ?_) rfl rfl rfl rfl rfl
      refine x_off hb107 hA (fun ac hA => ?_) rfl rfl rfl rfl rfl
      refine x_off hb107 hA (fun ac hA => ?_) rfl rfl rfl rfl rfl
      refine x_off hb107 hA (fun ac hA => ?_) rfl rfl rfl rfl rfl
      refine x_pickf hb107 hA (fun ac hA => ?_) rfl rfl rfl rfl rfl rfl
      refine x_move hA (fun ac hA => ?_) rfl rfl rfl rfl rfl
      refine x_off rfl hA (fun ac hA => ?_) rfl rfl rfl rfl rfl
      refine x_off rfl hA (fun ac hA => ?_) rfl rfl rfl rfl rfl
      refine x_off rfl hA (fun ac hA => ?_) rfl rfl rfl rfl rfl
      refine x_off rfl hA (fun ac hA => ?_) rfl rfl rfl rfl rfl
      refine x_off rfl hA (fun ac hA => ?_) rfl rfl rfl rfl rfl
      refine x_pickf rfl hA (fun ac hA => ?_) rfl rfl rfl rfl rfl rfl
      refine x_assign hA (fun ac hA => ?_) rfl rfl rfl rfl rfl
      refine wpList_nil ?_
      refine hK104 _ _ ?_
      refine wp_ret ?_
      replace hS := hS.drop 0
      replace hS := hS.drop 0
      cases hF
      refine hQ _ _ ?_
      refine lv Try.results18 hA rfl ?_
      exact ⟨rfl, hS⟩
    replace hF := iff' hb106 hF
    refine x_off hb106 hA (fun ac hA => ?_) rfl rfl rfl rfl rfl
    refine x_off hb106 hA (fun ac hA => ?_) rfl rfl rfl rfl rfl
    refine x_off hb106 hA (fun ac hA => ?_) rfl rfl rfl rfl rfl
    refine x_off hb106 hA (fun ac hA => ?_) rfl rfl rfl rfl rfl
    refine x_off hb106 hA (fun ac hA => ?_) rfl rfl rfl rfl rfl
    refine x_pickf hb106 hA (fun ac hA => ?_) rfl rfl rfl rfl rfl rfl
    refine x_move hA (fun ac hA => ?_) rfl rfl rfl rfl rfl
    refine x_off rfl hA (fun ac hA => ?_) rfl rfl rfl rfl rfl
    refine x_off rfl hA (fun ac hA => ?_) rfl rfl rfl rfl rfl
    refine x_off rfl hA (fun ac hA => ?_) rfl rfl rfl rfl rfl
    refine x_off rfl hA (fun ac hA => ?_) rfl rfl rfl rfl rfl
    refine x_off rfl hA (fun ac hA => ?_) rfl rfl rfl rfl rfl
    refine x_pickf rfl hA (fun ac hA => ?_) rfl rfl rfl rfl rfl rfl
    refine x_move hA (fun ac hA => ?_) rfl rfl rfl rfl rfl
    refine x_off rfl hA (fun ac hA => ?_) rfl rfl rfl rfl rfl
    refine x_off rfl hA (fun ac hA => ?_) rfl rfl rfl rfl rfl
    refine x_off rfl hA (fun ac hA => ?_) rfl rfl rfl rfl rfl
    refine x_off rfl hA (fun ac hA => ?_) rfl rfl rfl rfl rfl
    refine x_off rfl hA (fun ac hA => ?_) rfl rfl rfl rfl rfl
    refine x_pickf rfl hA (fun ac hA => ?_) rfl rfl rfl rfl rfl rfl
    refine x_assign hA (fun ac hA => ?_) rfl rfl rfl rfl rfl
    refine wpList_nil ?_
    refine hK104 _ _ ?_
    refine wp_ret ?_
    replace hS := hS.drop 0
    replace hS := hS.drop 0
    cases hF
    refine hQ _ _ ?_
    refine lv Try.results18 hA rfl ?_
    exact ⟨rfl, hS⟩
  replace hF := iff' hb105 hF
  refine x_off hb105 hA (fun ac hA => ?_) rfl rfl rfl rfl rfl
  refine x_off hb105 hA (fun ac hA => ?_) rfl rfl rfl rfl rfl
  refine x_off hb105 hA (fun ac hA => ?_) rfl rfl rfl rfl rfl
  refine x_off hb105 hA (fun ac hA => ?_) rfl rfl rfl rfl rfl
  refine x_off hb105 hA (fun ac hA => ?_) rfl rfl rfl rfl rfl
  refine x_pickf hb105 hA (fun ac hA => ?_) rfl rfl rfl rfl rfl rfl
  refine x_move hA (fun ac hA => ?_) rfl rfl rfl rfl rfl
  refine x_off rfl hA (fun ac hA => ?_) rfl rfl rfl rfl rfl
  refine x_off rfl hA (fun ac hA => ?_) rfl rfl rfl rfl rfl
  refine x_off rfl hA (fun ac hA => ?_) rfl rfl rfl rfl rfl
  refine x_off rfl hA (fun ac hA => ?_) rfl rfl rfl rfl rfl
  refine x_off rfl hA (fun ac hA => ?_) rfl rfl rfl rfl rfl
  refine x_pickf rfl hA (fun ac hA => ?_) rfl rfl rfl rfl rfl rfl
  refine x_move hA (fun ac hA => ?_) rfl rfl rfl rfl rfl
  refine x_off rfl hA (fun ac hA => ?_) rfl rfl rfl rfl rfl
  refine x_off rfl hA (fun ac hA => ?_) rfl rfl rfl rfl rfl
  refine x_off rfl hA (fun ac hA => ?_) rfl rfl rfl rfl rfl
  refine x_off rfl hA (fun ac hA => ?_) rfl rfl rfl rfl rfl
  refine x_off rfl hA (fun ac hA => ?_) rfl rfl rfl rfl rfl
  refine x_pickf rfl hA (fun ac hA => ?_) rfl rfl rfl rfl rfl rfl
  refine x_move hA (fun ac hA => ?_) rfl rfl rfl rfl rfl
  refine x_off rfl hA (fun ac hA => ?_) rfl rfl rfl rfl rfl
  refine x_off rfl hA (fun ac hA => ?_) rfl rfl rfl rfl rfl
  refine x_off rfl hA (fun ac hA => ?_) rfl rfl rfl rfl rfl
  refine x_off rfl hA (fun ac hA => ?_) rfl rfl rfl rfl rfl
  refine x_off rfl hA (fun ac hA => ?_) rfl rfl rfl rfl rfl
  refine x_pickf rfl hA (fun ac hA => ?_) rfl rfl rfl rfl rfl rfl
  refine x_assign hA (fun ac hA => ?_) rfl rfl rfl rfl rfl
  refine wpList_nil ?_
  refine hK104 _ _ ?_
  refine wp_ret ?_
  replace hS := hS.drop 0
  replace hS := hS.drop 0
  cases hF
  refine hQ _ _ ?_
  refine lv Try.results18 hA rfl ?_
  exact ⟨rfl, hS⟩

set_option maxHeartbeats 4000000 in
theorem F_r06_SameAll {r : World} {L : List HP} {w : World} (a0 : (List S30)) (a1 : (List S30)) (A0 : Option Addr) (n0 : Nat) (c0 : Nat) (A1 : Option Addr) (n1 : Nat) (c1 : Nat) {y : (Bool)} (hF : r06_SameAll a0 a1 = some y) (ha0 : RdL L k30 A0 n0 c0 a0) (ha1 : RdL L k30 A1 n1 c1 a1) (hS : SH r (L) w) :
    Ret Try.prog 16 #[.slice A0 n0 c0, .slice A1 n1 c1] w fun v w' => v = .bool y ∧ SH r (L) w' := by
  refine enter Try.func16 rfl Try.ntmps16 [(0, .slice A0 n0 c0), (1, .slice A1 n1 c1)] rfl (by simp) ?_
  intro ac hA Qf hQ hQn
  unfold r06_SameAll at hF
  refine wp_seq_k fun K101 hK101 => ?_
  refine wp_reg ?_
  refine x_assign hA (fun ac hA => ?_) rfl rfl rfl rfl rfl
  refine wpList_nil ?_
  refine hK101 _ _ ?_
  refine wp_seq_k fun K102 hK102 => ?_
  refine wp_seq_k fun K103 hK103 => ?_
  refine wp_reg ?_
  refine x_move hA (fun ac hA => ?_) rfl rfl rfl rfl rfl
  refine x_len Try.underlying25 (hS.rdl 0 ha0 rfl).2.1 hA (fun ac hA => ?_) rfl rfl rfl rfl rfl
  refine x_move hA (fun ac hA => ?_) rfl rfl rfl rfl rfl
  refine x_len Try.underlying25 (hS.rdl 0 ha1 rfl).2.1 hA (fun ac hA => ?_) rfl rfl rfl rfl rfl
  refine x_val hA (r_neI rfl (hA.ev rfl) (hA.ev rfl)) (fun ac hA => ?_) rfl rfl rfl
  refine wpList_nil ?_
  refine hK103 _ _ ?_
  refine c_if hA rfl (fun hb104 => ?_) fun hb104 => ?_
  · replace hF := ift hb104 hF
    refine wp_seq_k fun K105 hK105 => ?_
    refine wp_reg ?_
    refine x_assign hA (fun ac hA => ?_) rfl rfl rfl rfl rfl
    refine wpList_nil ?_
    refine hK105 _ _ ?_
    refine wp_ret ?_
    cases hF
    refine hQ _ _ ?_
    refine lv Try.results16 hA rfl ?_
    exact ⟨rfl, hS⟩
  replace hF := iff' hb104 hF
  refine wp_skip ?_
  refine hK102 _ _ ?_
  refine wp_seq_k fun K106 hK106 => ?_
  refine wp_seq_k fun K214 hK214 => ?_
  refine wp_reg ?_
  refine x_assign hA (fun ac hA => ?_) rfl rfl rfl rfl rfl
  refine wpList_nil ?_
  refine hK214 _ _ ?_
  refine wp_block_k fun Kx215 hKx215 => ?_
  have hb1 : r06_SameAll_b1 = some y → ∀ (ac : Act) (w : World), FR 27 [] ac [] → SH r (L) w → Kx215 ac w := by
    intro hF ac w hA hS
    unfold r06_SameAll_b1 at hF
    refine hKx215 _ _ ?_
    refine hK106 _ _ ?_
    refine wp_seq_k fun K268 hK268 => ?_
    refine wp_reg ?_
    refine x_assign hA (fun ac hA => ?_) rfl rfl rfl rfl rfl
    refine wpList_nil ?_
    refine hK268 _ _ ?_
    refine wp_ret ?_
    cases hF
    refine hQ _ _ ?_
    refine lv Try.results16 hA rfl ?_
    exact ⟨rfl, hS⟩
  obtain ⟨t303, hl303, hF⟩ := bnd hF
  have hR303 := hF
  have hx303_0 : (.inl ()) = t303 → ∀ (ac : Act) (w : World), FR 27 [] ac [] → SH r (L) w → Kx215 ac w := by
    intro ht ac w hA hS
    subst ht
    replace hF : r06_SameAll_x1_0 = some y := hF
    unfold r06_SameAll_x1_0 at hF
    exact hb1 hF ac w (hA.sub _ rfl) hS
  refine wp_loop_fn hl303 (fun s ac w => FR 27 [] ac [(0, .slice A0 n0 c0), (1, .slice A1 n1 c1), (5, .int .i64 s)] ∧ SH r (L) w) ⟨hA.sub _ rfl, hS⟩ ?_
  intro N303 s303 o303 hF N303_ T303_ ac w hLab
  obtain ⟨x286, rfl⟩ : ∃ q, q = s303 := ⟨_, rfl⟩
  replace hF : r06_SameAll_l1 a0 a1 x286 = some o303 := hF
  unfold r06_SameAll_l1 at hF
  try dsimp only at hLab
  obtain ⟨hA, hS⟩ := hLab
  refine wp_seq_k fun K305 hK305 => ?_
  refine wp_seq_k fun K306 hK306 => ?_
  refine wp_reg ?_
  refine x_move hA (fun ac hA => ?_) rfl rfl rfl rfl rfl
  refine x_move hA (fun ac hA => ?_) rfl rfl rfl rfl rfl
  refine x_len Try.underlying25 (hS.rdl 0 ha0 rfl).2.1 hA (fun ac hA => ?_) rfl rfl rfl rfl rfl
  refine x_val hA (r_ltI rfl (hA.ev rfl) (hA.ev rfl)) (fun ac hA => ?_) rfl rfl rfl
  refine wpList_nil ?_
  refine hK306 _ _ ?_
  refine c_if hA rfl (fun hb307 => ?_) fun hb307 => ?_
  · replace hF := ift hb307 hF
    refine wp_skip ?_
    refine hK305 _ _ ?_
    refine wp_seq_k fun K308 hK308 => ?_
    refine wp_block_k fun Kx309 hKx309 => ?_
    refine wp_seq_k fun K310 hK310 => ?_
    refine wp_draw [0, 0, 3, 7, 0, 0, 48, 112, 255, 511] [8] rfl hA hS (by kernel_rfl) (by kernel_rfl) (by kernel_rfl) (by kernel_rfl) fun w hS => ?_
    obtain ⟨x311, h312, hF⟩ := bnd hF
    obtain ⟨cs, hV, hc313⟩ := el (hS.rdl 0 ha0 rfl) h312
    obtain rfl := hV
    obtain ⟨x314, h315, hF⟩ := bnd hF
    obtain ⟨cs, hV, hc316⟩ := el (hS.rdl 0 ha1 rfl) h315
    obtain rfl := hV
    refine ⟨[(0, .slice A0 n0 c0), (1, .int .i64 x286), (2, .pointer (some (ea A0 (x286.toNat * 5)))), (3, .agg #[.int .u64 x311.f0, .int .i64 x311.f1, .int .i64 x311.f2, str x311.f3, .float .f64 x311.f4]), (4, .slice A1 n1 c1), (5, .int .i64 x286), (6, .pointer (some (ea A1 (x286.toNat * 5)))), (7, .agg #[.int .u64 x314.f0, .int .i64 x314.f1, .int .i64 x314.f2, str x314.f3, .float .f64 x314.f4])], ?_⟩
    refine dEff [0, 1, 2, 3, 4, 5, 6, 7] [8] (by kernel_rfl) ⟨pu rfl rfl [(0, .slice A0 n0 c0)] (fun ac hA => y_move hA rfl rfl) rfl rfl, pu rfl rfl [(5, .int .i64 x286)] (fun ac hA => y_move hA rfl rfl) rfl rfl, pu rfl rfl [(17, .slice A0 n0 c0), (18, .int .i64 x286)] (fun ac hA => y_ia Try.underlying25 sz30 (hS.rdl 0 ha0 rfl) h312 hA rfl rfl rfl) rfl rfl, pu rfl rfl [(19, .pointer (some (ea A0 (x286.toNat * 5))))] (fun ac hA => y_lda (cs := [.int .u64 x311.f0, .int .i64 x311.f1, .int .i64 x311.f2, str x311.f3, .float .f64 x311.f4]) Try.underlying30 sz30 (fun j u h => by rw [ea_add]; exact hc313 _ _ h) hA rfl rfl rfl) rfl rfl, pu rfl rfl [(1, .slice A1 n1 c1)] (fun ac hA => y_move hA rfl rfl) rfl rfl, pu rfl rfl [(5, .int .i64 x286)] (fun ac hA => y_move hA rfl rfl) rfl rfl, pu rfl rfl [(21, .slice A1 n1 c1), (22, .int .i64 x286)] (fun ac hA => y_ia Try.underlying25 sz30 (hS.rdl 0 ha1 rfl) h315 hA rfl rfl rfl) rfl rfl, pu rfl rfl [(23, .pointer (some (ea A1 (x286.toNat * 5))))] (fun ac hA => y_lda (cs := [.int .u64 x314.f0, .int .i64 x314.f1, .int .i64 x314.f2, str x314.f3, .float .f64 x314.f4]) Try.underlying30 sz30 (fun j u h => by rw [ea_add]; exact hc316 _ _ h) hA rfl rfl rfl) rfl rfl, trivial⟩ (by kernel_rfl) (by kernel_rfl) ⟨ef rfl [(20, .agg #[.int .u64 x311.f0, .int .i64 x311.f1, .int .i64 x311.f2, str x311.f3, .float .f64 x311.f4]), (24, .agg #[.int .u64 x314.f0, .int .i64 x314.f1, .int .i64 x314.f2, str x314.f3, .float .f64 x314.f4])] (fun ac hA K hK => ?_) rfl rfl, trivial⟩
    obtain ⟨y317, h318, hF⟩ := bnd hF
    refine z_call en18 hA (F_r06_Same (L := L) x311 x314 h318 hS) (fun v w hR => ?_) rfl rfl
    obtain ⟨rfl, hS⟩ := hR
    refine hK _ [(9, .bool (!y317))] _ rfl ?_
    refine dEnd [9] (by kernel_rfl) ⟨pu rfl rfl [(25, .bool y317)] (fun ac hA => r_not rfl (hA.ev rfl)) rfl rfl, trivial⟩ ⟨by kernel_rfl, by kernel_rfl⟩ [(0, .slice A0 n0 c0), (1, .slice A1 n1 c1), (5, .int .i64 x286), (26, .bool (!y317))] rfl (fun ac hA => ?_)
    refine hK310 _ _ ?_
    refine c_if hA rfl (fun hb319 => ?_) fun hb319 => ?_
    · replace hF := ift hb319 hF
      refine wp_seq_k fun K320 hK320 => ?_
      refine wp_reg ?_
      refine x_assign hA (fun ac hA => ?_) rfl rfl rfl rfl rfl
      refine wpList_nil ?_
      refine hK320 _ _ ?_
      refine wp_ret ?_
      cases hF
      have ht := T303_ _ rfl
      subst ht
      replace hF := hR303
      replace hF : some false = some y := hF
      cases hF
      refine hQ _ _ ?_
      refine lv Try.results16 hA rfl ?_
      exact ⟨rfl, hS⟩
    replace hF := iff' hb319 hF
    refine wp_skip ?_
    refine hKx309 _ _ ?_
    refine hK308 _ _ ?_
    refine wp_reg ?_
    refine x_move hA (fun ac hA => ?_) rfl rfl rfl rfl rfl
    refine x_val hA (r_add rfl (hA.ev rfl) (hA.ev rfl)) (fun ac hA => ?_) rfl rfl rfl
    refine x_assign hA (fun ac hA => ?_) rfl rfl rfl rfl rfl
    refine wpList_nil ?_
    cases hF
    exact ⟨_, N303_ _ rfl, hA.sub _ rfl, hS⟩
  replace hF := iff' hb307 hF
  refine wp_exit ?_
  cases hF
  exact hx303_0 (T303_ _ rfl) ac w (hA.sub _ rfl) hS

set_option maxHeartbeats 4000000 in
theorem F_math_IsNaN {r : World} {L : List HP} {w : World} (a0 : Nat) {y : (Bool)} (hF : math_IsNaN a0 = some y) (hS : SH r (L) w) :
    Ret Try.prog 39 #[.float .f64 a0] w fun v w' => v = .bool y ∧ SH r (L) w' := by
  refine enter Try.func39 rfl Try.ntmps39 [(0, .float .f64 a0)] rfl (by simp) ?_
  intro ac hA Qf hQ hQn
  unfold math_IsNaN at hF
  refine wp_seq_k fun K101 hK101 => ?_
  refine wp_reg ?_
  refine x_assign hA (fun ac hA => ?_) rfl rfl rfl rfl rfl
  refine wpList_nil ?_
  refine hK101 _ _ ?_
  refine wp_seq_k fun K102 hK102 => ?_
  refine wp_reg ?_
  refine x_move hA (fun ac hA => ?_) rfl rfl rfl rfl rfl
  refine x_move hA (fun ac hA => ?_) rfl rfl rfl rfl rfl
  refine x_val hA (r_neF rfl (hA.ev rfl) (hA.ev rfl)) (fun ac hA => ?_) rfl rfl rfl
  refine x_assign hA (fun ac hA => ?_) rfl rfl rfl rfl rfl
  refine wpList_nil ?_
  refine hK102 _ _ ?_
  refine wp_ret ?_
  cases hF
  refine hQ _ _ ?_
  refine lv Try.results39 hA rfl ?_
  exact ⟨rfl, hS⟩

set_option maxHeartbeats 4000000 in
theorem F_real_Canon {r : World} {L : List HP} {w : World} (a0 : Nat) {y : (Nat)} (hF : real_Canon a0 = some y) (hS : SH r (L) w) :
    Ret Try.prog 37 #[.float .f64 a0] w fun v w' => v = .float .f64 y ∧ SH r (L) w' := by
  refine enter Try.func37 rfl Try.ntmps37 [(0, .float .f64 a0)] rfl (by simp) ?_
  intro ac hA Qf hQ hQn
  unfold real_Canon at hF
  refine wp_seq_k fun K101 hK101 => ?_
  refine wp_reg ?_
  refine x_assign hA (fun ac hA => ?_) rfl rfl rfl rfl rfl
  refine wpList_nil ?_
  refine hK101 _ _ ?_
  refine wp_seq_k fun K102 hK102 => ?_
  refine wp_seq_k fun K103 hK103 => ?_
  refine wp_reg ?_
  refine x_move hA (fun ac hA => ?_) rfl rfl rfl rfl rfl
  obtain ⟨y104, h105, hF⟩ := bnd hF
  refine x_call en39 hA (F_math_IsNaN (L := L) a0 h105 hS) (fun v ac w hR hA => ?_) rfl rfl rfl rfl rfl
  obtain ⟨rfl, hS⟩ := hR
  refine wpList_nil ?_
  refine hK103 _ _ ?_
  refine c_if hA rfl (fun hb106 => ?_) fun hb106 => ?_
  · replace hF := ift hb106 hF
    refine wp_seq_k fun K107 hK107 => ?_
    refine wp_reg ?_
    refine x_val hA (r_ext (ex40 _) rfl (evs hA rfl)) (fun ac hA => ?_) rfl rfl rfl
    refine x_assign hA (fun ac hA => ?_) rfl rfl rfl rfl rfl
    refine wpList_nil ?_
    refine hK107 _ _ ?_
    refine wp_ret ?_
    cases hF
    refine hQ _ _ ?_
    refine lv Try.results37 hA rfl ?_
    exact ⟨rfl, hS⟩
  replace hF := iff' hb106 hF
  refine wp_skip ?_
  refine hK102 _ _ ?_
  refine wp_seq_k fun K108 hK108 => ?_
  refine wp_reg ?_
  refine x_move hA (fun ac hA => ?_) rfl rfl rfl rfl rfl
  refine x_assign hA (fun ac hA => ?_) rfl rfl rfl rfl rfl
  refine wpList_nil ?_
  refine hK108 _ _ ?_
  refine wp_ret ?_
  cases hF
  refine hQ _ _ ?_
  refine lv Try.results37 hA rfl ?_
  exact ⟨rfl, hS⟩

set_option maxHeartbeats 4000000 in
theorem F_real_Bits {r : World} {L : List HP} {w : World} (a0 : Nat) {y : (Int)} (hF : real_Bits a0 = some y) (hS : SH r (L) w) :
    Ret Try.prog 33 #[.float .f64 a0] w fun v w' => v = .int .u64 y ∧ SH r (L) w' := by
  refine enter Try.func33 rfl Try.ntmps33 [(0, .float .f64 a0)] rfl (by simp) ?_
  intro ac hA Qf hQ hQn
  unfold real_Bits at hF
  refine wp_seq_k fun K101 hK101 => ?_
  refine wp_reg ?_
  refine x_assign hA (fun ac hA => ?_) rfl rfl rfl rfl rfl
  refine wpList_nil ?_
  refine hK101 _ _ ?_
  refine wp_seq_k fun K102 hK102 => ?_
  refine wp_reg ?_
  refine x_move hA (fun ac hA => ?_) rfl rfl rfl rfl rfl
  obtain ⟨y103, h104, hF⟩ := bnd hF
  refine x_call en37 hA (F_real_Canon (L := L) a0 h104 hS) (fun v ac w hR hA => ?_) rfl rfl rfl rfl rfl
  obtain ⟨rfl, hS⟩ := hR
  refine x_val hA (r_ext (ex34 _) rfl (evs hA rfl)) (fun ac hA => ?_) rfl rfl rfl
  refine x_assign hA (fun ac hA => ?_) rfl rfl rfl rfl rfl
  refine wpList_nil ?_
  refine hK102 _ _ ?_
  refine wp_ret ?_
  cases hF
  refine hQ _ _ ?_
  refine lv Try.results33 hA rfl ?_
  exact ⟨rfl, hS⟩

set_option maxHeartbeats 4000000 in
theorem F_real_Same {r : World} {L : List HP} {w : World} (a0 : Nat) (a1 : Nat) {y : (Bool)} (hF : real_Same a0 a1 = some y) (hS : SH r (L) w) :
    Ret Try.prog 30 #[.float .f64 a0, .float .f64 a1] w fun v w' => v = .bool y ∧ SH r (L) w' := by
  refine enter Try.func30 rfl Try.ntmps30 [(0, .float .f64 a0), (1, .float .f64 a1)] rfl (by simp) ?_
  intro ac hA Qf hQ hQn
  unfold real_Same at hF
  refine wp_seq_k fun K101 hK101 => ?_
  refine wp_reg ?_
  refine x_assign hA (fun ac hA => ?_) rfl rfl rfl rfl rfl
  refine wpList_nil ?_
  refine hK101 _ _ ?_
  refine wp_seq_k fun K102 hK102 => ?_
  refine wp_reg ?_
  refine x_move hA (fun ac hA => ?_) rfl rfl rfl rfl rfl
  obtain ⟨y103, h104, hF⟩ := bnd hF
  refine x_call en33 hA (F_real_Bits (L := L) a0 h104 hS) (fun v ac w hR hA => ?_) rfl rfl rfl rfl rfl
  obtain ⟨rfl, hS⟩ := hR
  refine x_move hA (fun ac hA => ?_) rfl rfl rfl rfl rfl
  obtain ⟨y105, h106, hF⟩ := bnd hF
  refine x_call en33 hA (F_real_Bits (L := L) a1 h106 hS) (fun v ac w hR hA => ?_) rfl rfl rfl rfl rfl
  obtain ⟨rfl, hS⟩ := hR
  refine x_val hA (r_eqI rfl (hA.ev rfl) (hA.ev rfl)) (fun ac hA => ?_) rfl rfl rfl
  refine x_assign hA (fun ac hA => ?_) rfl rfl rfl rfl rfl
  refine wpList_nil ?_
  refine hK102 _ _ ?_
  refine wp_ret ?_
  cases hF
  refine hQ _ _ ?_
  refine lv Try.results30 hA rfl ?_
  exact ⟨rfl, hS⟩

set_option maxHeartbeats 4000000 in
theorem F_event_Same {r : World} {L : List HP} {w : World} (a0 : S30) (a1 : S30) {y : (Bool)} (hF : event_Same a0 a1 = some y) (hS : SH r (L) w) :
    Ret Try.prog 24 #[.agg #[.int .u64 a0.f0, .int .i64 a0.f1, .int .i64 a0.f2, str a0.f3, .float .f64 a0.f4], .agg #[.int .u64 a1.f0, .int .i64 a1.f1, .int .i64 a1.f2, str a1.f3, .float .f64 a1.f4]] w fun v w' => v = .bool y ∧ SH r (L) w' := by
  refine enter Try.func24 rfl Try.ntmps24 [(0, .agg #[.int .u64 a0.f0, .int .i64 a0.f1, .int .i64 a0.f2, str a0.f3, .float .f64 a0.f4]), (1, .agg #[.int .u64 a1.f0, .int .i64 a1.f1, .int .i64 a1.f2, str a1.f3, .float .f64 a1.f4])] rfl (by simp) ?_
  intro ac hA Qf hQ hQn
  unfold event_Same at hF
  refine wp_seq_k fun K101 hK101 => ?_
  refine wp_reg ?_
  refine x_box hA hS (fun g102 ac w hS hA => ?_) rfl rfl rfl rfl rfl rfl
  refine x_box hA hS (fun g103 ac w hS hA => ?_) rfl rfl rfl rfl rfl rfl
  refine x_assign hA (fun ac hA => ?_) rfl rfl rfl rfl rfl
  refine wpList_nil ?_
  refine hK101 _ _ ?_
  refine wp_seq_k fun K104 hK104 => ?_
  refine wp_reg ?_
  refine x_fab fa30_0 hA (fun ac hA => ?_) rfl rfl rfl rfl rfl
  refine x_ld Try.underlying27 (hS.cell 1 rfl 0 _ rfl) hA (fun ac hA => ?_) rfl rfl rfl rfl rfl rfl
  refine x_fab fa30_0 hA (fun ac hA => ?_) rfl rfl rfl rfl rfl
  refine x_ld Try.underlying27 (hS.cell 0 rfl 0 _ rfl) hA (fun ac hA => ?_) rfl rfl rfl rfl rfl rfl
  refine x_val hA (r_eqI rfl (hA.ev rfl) (hA.ev rfl)) (fun ac hA => ?_) rfl rfl rfl
  refine x_move hA (fun ac hA => ?_) rfl rfl rfl rfl rfl
  refine bcase (b := a0.f0 == a1.f0) (fun hb105 => ?_) fun hb105 => ?_
  · replace hF := ift hb105 hF
    refine x_on hb105 hA ?_ rfl rfl rfl
    refine x_fab fa30_1 hA (fun ac hA => ?_) rfl rfl rfl rfl rfl
    refine x_on hb105 hA ?_ rfl rfl rfl
    refine x_ld Try.underlying3 (hS.cell 1 rfl 1 _ rfl) hA (fun ac hA => ?_) rfl rfl rfl rfl rfl rfl
    refine x_on hb105 hA ?_ rfl rfl rfl
    refine x_fab fa30_1 hA (fun ac hA => ?_) rfl rfl rfl rfl rfl
    refine x_on hb105 hA ?_ rfl rfl rfl
    refine x_ld Try.underlying3 (hS.cell 0 rfl 1 _ rfl) hA (fun ac hA => ?_) rfl rfl rfl rfl rfl rfl
    refine x_on hb105 hA ?_ rfl rfl rfl
    refine x_val hA (r_eqI rfl (hA.ev rfl) (hA.ev rfl)) (fun ac hA => ?_) rfl rfl rfl
    refine x_pickt hb105 hA (fun ac hA => ?_) rfl rfl rfl rfl rfl rfl
    refine x_move hA (fun ac hA => ?_) rfl rfl rfl rfl rfl
    refine bcase (b := a0.f1 == a1.f1) (fun hb106 => ?_) fun hb106 => ?_
    · replace hF := ift hb106 hF
      refine x_on hb106 hA ?_ rfl rfl rfl
      refine x_fab fa30_2 hA (fun ac hA => ?_) rfl rfl rfl rfl rfl
      refine x_on hb106 hA ?_ rfl rfl rfl
      refine x_ld Try.underlying2 (hS.cell 1 rfl 2 _ rfl) hA (fun ac hA => ?_) rfl rfl rfl rfl rfl rfl
      refine x_on hb106 hA ?_ rfl rfl rfl
      refine x_fab fa30_2 hA (fun ac hA => ?_) rfl rfl rfl rfl rfl
      refine x_on hb106 hA ?_ rfl rfl rfl
      refine x_ld Try.underlying2 (hS.cell 0 rfl 2 _ rfl) hA (fun ac hA => ?_) rfl rfl rfl rfl rfl rfl
      refine x_on hb106 hA ?_ rfl rfl rfl
      refine x_val hA (r_eqI rfl (hA.ev rfl) (hA.ev rfl)) (fun ac hA => ?_) rfl rfl rfl
      refine x_pickt hb106 hA (fun ac hA => ?_) rfl rfl rfl rfl rfl rfl
      refine x_move hA (fun ac hA => ?_) rfl rfl rfl rfl rfl
      refine bcase (b := a0.f2 == a1.f2) (fun hb107 => ?_) fun hb107 => ?_
      · replace hF := ift hb107 hF
        refine x_on hb107 hA ?_ rfl rfl rfl
        refine x_fab fa30_3 hA (fun ac hA => ?_) rfl rfl rfl rfl rfl
        refine x_on hb107 hA ?_ rfl rfl rfl
        refine x_ld Try.underlying9 (hS.cell 1 rfl 3 _ rfl) hA (fun ac hA => ?_) rfl rfl rfl rfl rfl rfl
        refine x_on hb107 hA ?_ rfl rfl rfl
        refine x_fab fa30_3 hA (fun ac hA => ?_) rfl rfl rfl rfl rfl
        refine x_on hb107 hA ?_ rfl rfl rfl
        refine x_ld Try.underlying9 (hS.cell 0 rfl 3 _ rfl) hA (fun ac hA => ?_) rfl rfl rfl rfl rfl rfl
        refine x_on hb107 hA ?_ rfl rfl rfl
        refine x_val hA (r_eqS rfl (hA.ev rfl) (hA.ev rfl)) (fun ac hA => ?_) rfl rfl rfl
        refine x_pickt hb107 hA (fun ac hA => ?_) rfl rfl rfl rfl rfl rfl
        refine x_move hA (fun ac hA => ?_) rfl rfl rfl rfl rfl
        refine bcase (b := a0.f3 == a1.f3) (fun hb108 => ?_) fun hb108 => ?_
        · replace hF := ift hb108 hF
          refine x_on hb108 hA ?_ rfl rfl rfl
          refine x_fab fa30_4 hA (fun ac hA => ?_) rfl rfl rfl rfl rfl
          refine x_on hb108 hA ?_ rfl rfl rfl
          refine x_ld Try.underlying28 (hS.cell 1 rfl 4 _ rfl) hA (fun ac hA => ?_) rfl rfl rfl rfl rfl rfl
          refine x_on hb108 hA ?_ rfl rfl rfl
          refine x_fab fa30_4 hA (fun ac hA => ?_) rfl rfl rfl rfl rfl
          refine x_on hb108 hA ?_ rfl rfl rfl
          refine x_ld Try.underlying28 (hS.cell 0 rfl 4 _ rfl) hA (fun ac hA => ?_) rfl rfl rfl rfl rfl rfl
          refine x_on hb108 hA ?_ rfl rfl rfl
          obtain ⟨y109, h110, hF⟩ := bnd hF
          refine x_call en30 hA (F_real_Same (L := blk g103 30 [.int .u64 a1.f0, .int .i64 a1.f1, .int .i64 a1.f2, str a1.f3, .float .f64 a1.f4] :: blk g102 30 [.int .u64 a0.f0, .int .i64 a0.f1, .int .i64 a0.f2, str a0.f3, .float .f64 a0.f4] :: L) a0.f4 a1.f4 h110 hS) (fun v ac w hR hA => ?_) rfl rfl rfl rfl rfl
          obtain ⟨rfl, hS⟩ := hR
          refine x_pickt hb108 hA (fun ac hA => ?_) rfl rfl rfl rfl rfl rfl
          refine x_assign hA (fun ac hA => ?_) rfl rfl rfl rfl rfl
          refine wpList_nil ?_
          refine hK104 _ _ ?_
          refine wp_ret ?_
          replace hS := hS.drop 0
          replace hS := hS.drop 0
          cases hF
          refine hQ _ _ ?_
          refine lv Try.results24 hA rfl ?_
          exact ⟨rfl, hS⟩
        replace hF := iff' hb108 hF
        refine x_off hb108 hA (fun ac hA => ?_) rfl rfl rfl rfl rfl
        refine x_off hb108 hA (fun ac hA => ?_) rfl rfl rfl rfl rfl
        refine x_off hb108 hA (fun ac hA => ?_) rfl rfl rfl rfl rfl
        refine x_off hb108 hA (fun ac hA => ?_) rfl rfl rfl rfl rfl
        refine x_off hb108 hA (fun ac hA => ?_) rfl rfl rfl rfl rfl
        refine x_pickf hb108 hA (fun ac hA => ?_) rfl rfl rfl rfl rfl rfl
        refine x_assign hA (fun ac hA => ?_) rfl rfl rfl rfl rfl
        refine wpList_nil ?_
        refine hK104 _ _ ?_
        refine wp_ret ?_
        replace hS := hS.drop 0
        replace hS := hS.drop 0
        cases hF
        refine hQ _ _ ?_
        refine lv Try.results24 hA rfl ?_
        exact ⟨rfl, hS⟩
      replace hF := iff' hb107 hF
      refine x_off hb107 hA (fun ac hA => ?_) rfl rfl rfl rfl rfl
      refine x_off hb107 hA (fun ac hA => ?_) rfl rfl rfl rfl rfl
      refine x_off hb107 hA (fun ac hA => ?_) rfl rfl rfl rfl rfl
      refine x_off hb107 hA (fun ac hA => ?_) rfl rfl rfl rfl rfl
      refine x_off hb107 hA (fun ac hA => ?_) rfl rfl rfl rfl rfl
      refine x_pickf hb107 hA (fun ac hA => ?_) rfl rfl rfl rfl rfl rfl
      refine x_move hA (fun ac hA => ?_) rfl rfl rfl rfl rfl
      refine x_off rfl hA (fun ac hA => ?_) rfl rfl rfl rfl rfl
      refine x_off rfl hA (fun ac hA => ?_) rfl rfl rfl rfl rfl
      refine x_off rfl hA (fun ac hA => ?_) rfl rfl rfl rfl rfl
      refine x_off rfl hA (fun ac hA => ?_) rfl rfl rfl rfl rfl
      refine x_off rfl hA (fun ac hA => ?_) rfl rfl rfl rfl rfl
      refine x_pickf rfl hA (fun ac hA => ?_) rfl rfl rfl rfl rfl rfl
      refine x_assign hA (fun ac hA => ?_) rfl rfl rfl rfl rfl
      refine wpList_nil ?_
      refine hK104 _ _ ?_
      refine wp_ret ?_
      replace hS := hS.drop 0
      replace hS := hS.drop 0
      cases hF
      refine hQ _ _ ?_
      refine lv Try.results24 hA rfl ?_
      exact ⟨rfl, hS⟩
    replace hF := iff' hb106 hF
    refine x_off hb106 hA (fun ac hA => ?_) rfl rfl rfl rfl rfl
    refine x_off hb106 hA (fun ac hA => ?_) rfl rfl rfl rfl rfl
    refine x_off hb106 hA (fun ac hA => ?_) rfl rfl rfl rfl rfl
    refine x_off hb106 hA (fun ac hA => ?_) rfl rfl rfl rfl rfl
    refine x_off hb106 hA (fun ac hA => ?_) rfl rfl rfl rfl rfl
    refine x_pickf hb106 hA (fun ac hA => ?_) rfl rfl rfl rfl rfl rfl
    refine x_move hA (fun ac hA => ?_) rfl rfl rfl rfl rfl
    refine x_off rfl hA (fun ac hA => ?_) rfl rfl rfl rfl rfl
    refine x_off rfl hA (fun ac hA => ?_) rfl rfl rfl rfl rfl
    refine x_off rfl hA (fun ac hA => ?_) rfl rfl rfl rfl rfl
    refine x_off rfl hA (fun ac hA => ?_) rfl rfl rfl rfl rfl
    refine x_off rfl hA (fun ac hA => ?_) rfl rfl rfl rfl rfl
    refine x_pickf rfl hA (fun ac hA => ?_) rfl rfl rfl rfl rfl rfl
    refine x_move hA (fun ac hA => ?_) rfl rfl rfl rfl rfl
    refine x_off rfl hA (fun ac hA => ?_) rfl rfl rfl rfl rfl
    refine x_off rfl hA (fun ac hA => ?_) rfl rfl rfl rfl rfl
    refine x_off rfl hA (fun ac hA => ?_) rfl rfl rfl rfl rfl
    refine x_off rfl hA (fun ac hA => ?_) rfl rfl rfl rfl rfl
    refine x_off rfl hA (fun ac hA => ?_) rfl rfl rfl rfl rfl
    refine x_pickf rfl hA (fun ac hA => ?_) rfl rfl rfl rfl rfl rfl
    refine x_assign hA (fun ac hA => ?_) rfl rfl rfl rfl rfl
    refine wpList_nil ?_
    refine hK104 _ _ ?_
    refine wp_ret ?_
    replace hS := hS.drop 0
    replace hS := hS.drop 0
    cases hF
    refine hQ _ _ ?_
    refine lv Try.results24 hA rfl ?_
    exact ⟨rfl, hS⟩
  replace hF := iff' hb105 hF
  refine x_off hb105 hA (fun ac hA => ?_) rfl rfl rfl rfl rfl
  refine x_off hb105 hA (fun ac hA => ?_) rfl rfl rfl rfl rfl
  refine x_off hb105 hA (fun ac hA => ?_) rfl rfl rfl rfl rfl
  refine x_off hb105 hA (fun ac hA => ?_) rfl rfl rfl rfl rfl
  refine x_off hb105 hA (fun ac hA => ?_) rfl rfl rfl rfl rfl
  refine x_pickf hb105 hA (fun ac hA => ?_) rfl rfl rfl rfl rfl rfl
  refine x_move hA (fun ac hA => ?_) rfl rfl rfl rfl rfl
  refine x_off rfl hA (fun ac hA => ?_) rfl rfl rfl rfl rfl
  refine x_off rfl hA (fun ac hA => ?_) rfl rfl rfl rfl rfl
  refine x_off rfl hA (fun ac hA => ?_) rfl rfl rfl rfl rfl
  refine x_off rfl hA (fun ac hA => ?_) rfl rfl rfl rfl rfl
  refine x_off rfl hA (fun ac hA => ?_) rfl rfl rfl rfl rfl
  refine x_pickf rfl hA (fun ac hA => ?_) rfl rfl rfl rfl rfl rfl
  refine x_move hA (fun ac hA => ?_) rfl rfl rfl rfl rfl
  refine x_off rfl hA (fun ac hA => ?_) rfl rfl rfl rfl rfl
  refine x_off rfl hA (fun ac hA => ?_) rfl rfl rfl rfl rfl
  refine x_off rfl hA (fun ac hA => ?_) rfl rfl rfl rfl rfl
  refine x_off rfl hA (fun ac hA => ?_) rfl rfl rfl rfl rfl
  refine x_off rfl hA (fun ac hA => ?_) rfl rfl rfl rfl rfl
  refine x_pickf rfl hA (fun ac hA => ?_) rfl rfl rfl rfl rfl rfl
  refine x_move hA (fun ac hA => ?_) rfl rfl rfl rfl rfl
  refine x_off rfl hA (fun ac hA => ?_) rfl rfl rfl rfl rfl
  refine x_off rfl hA (fun ac hA => ?_) rfl rfl rfl rfl rfl
  refine x_off rfl hA (fun ac hA => ?_) rfl rfl rfl rfl rfl
  refine x_off rfl hA (fun ac hA => ?_) rfl rfl rfl rfl rfl
  refine x_off rfl hA (fun ac hA => ?_) rfl rfl rfl rfl rfl
  refine x_pickf rfl hA (fun ac hA => ?_) rfl rfl rfl rfl rfl rfl
  refine x_assign hA (fun ac hA => ?_) rfl rfl rfl rfl rfl
  refine wpList_nil ?_
  refine hK104 _ _ ?_
  refine wp_ret ?_
  replace hS := hS.drop 0
  replace hS := hS.drop 0
  cases hF
  refine hQ _ _ ?_
  refine lv Try.results24 hA rfl ?_
  exact ⟨rfl, hS⟩

set_option maxHeartbeats 4000000 in
theorem F_event_Form {r : World} {L : List HP} {w : World} (a0 : S30) (a1 : Int) {y : (Bool)} (hF : event_Form a0 a1 = some y) (hS : SH r (L) w) :
    Ret Try.prog 21 #[.agg #[.int .u64 a0.f0, .int .i64 a0.f1, .int .i64 a0.f2, str a0.f3, .float .f64 a0.f4], .int .i64 a1] w fun v w' => v = .bool y ∧ SH r (L) w' := by
  refine enter Try.func21 rfl Try.ntmps21 [(0, .agg #[.int .u64 a0.f0, .int .i64 a0.f1, .int .i64 a0.f2, str a0.f3, .float .f64 a0.f4]), (1, .int .i64 a1)] rfl (by simp) ?_
  intro ac hA Qf hQ hQn
  unfold event_Form at hF
  refine wp_seq_k fun K101 hK101 => ?_
  refine wp_reg ?_
  refine x_box hA hS (fun g102 ac w hS hA => ?_) rfl rfl rfl rfl rfl rfl
  refine x_assign hA (fun ac hA => ?_) rfl rfl rfl rfl rfl
  refine wpList_nil ?_
  refine hK101 _ _ ?_
  refine wp_seq_k fun K103 hK103 => ?_
  refine wp_reg ?_
  refine x_fab fa30_1 hA (fun ac hA => ?_) rfl rfl rfl rfl rfl
  refine x_ld Try.underlying3 (hS.cell 0 rfl 1 _ rfl) hA (fun ac hA => ?_) rfl rfl rfl rfl rfl rfl
  refine x_val hA (r_geI rfl (hA.ev rfl) (hA.ev rfl)) (fun ac hA => ?_) rfl rfl rfl
  refine x_move hA (fun ac hA => ?_) rfl rfl rfl rfl rfl
  refine bcase (b := decide (0 ≤ a0.f1)) (fun hb104 => ?_) fun hb104 => ?_
  · replace hF := ift hb104 hF
    refine x_on hb104 hA ?_ rfl rfl rfl
    refine x_fab fa30_1 hA (fun ac hA => ?_) rfl rfl rfl rfl rfl
    refine x_on hb104 hA ?_ rfl rfl rfl
    refine x_ld Try.underlying3 (hS.cell 0 rfl 1 _ rfl) hA (fun ac hA => ?_) rfl rfl rfl rfl rfl rfl
    refine x_on hb104 hA ?_ rfl rfl rfl
    refine x_move hA (fun ac hA => ?_) rfl rfl rfl rfl rfl
    refine x_on hb104 hA ?_ rfl rfl rfl
    refine x_val hA (r_ltI rfl (hA.ev rfl) (hA.ev rfl)) (fun ac hA => ?_) rfl rfl rfl
    refine x_pickt hb104 hA (fun ac hA => ?_) rfl rfl rfl rfl rfl rfl
    refine x_move hA (fun ac hA => ?_) rfl rfl rfl rfl rfl
    refine bcase (b := decide (a0.f1 < a1)) (fun hb105 => ?_) fun hb105 => ?_
    · replace hF := ift hb105 hF
      refine x_on hb105 hA ?_ rfl rfl rfl
      refine x_fab fa30_2 hA (fun ac hA => ?_) rfl rfl rfl rfl rfl
      refine x_on hb105 hA ?_ rfl rfl rfl
      refine x_ld Try.underlying2 (hS.cell 0 rfl 2 _ rfl) hA (fun ac hA => ?_) rfl rfl rfl rfl rfl rfl
      refine x_on hb105 hA ?_ rfl rfl rfl
      refine x_val hA (r_geI rfl (hA.ev rfl) (hA.ev rfl)) (fun ac hA => ?_) rfl rfl rfl
      refine x_pickt hb105 hA (fun ac hA => ?_) rfl rfl rfl rfl rfl rfl
      refine x_move hA (fun ac hA => ?_) rfl rfl rfl rfl rfl
      refine bcase (b := decide (-1099511627776 ≤ a0.f2)) (fun hb106 => ?_) fun hb106 => ?_
      · replace hF := ift hb106 hF
        refine x_on hb106 hA ?_ rfl rfl rfl
        refine x_fab fa30_2 hA (fun ac hA => ?_) rfl rfl rfl rfl rfl
        refine x_on hb106 hA ?_ rfl rfl rfl
        refine x_ld Try.underlying2 (hS.cell 0 rfl 2 _ rfl) hA (fun ac hA => ?_) rfl rfl rfl rfl rfl rfl
        refine x_on hb106 hA ?_ rfl rfl rfl
        refine x_val hA (r_leI rfl (hA.ev rfl) (hA.ev rfl)) (fun ac hA => ?_) rfl rfl rfl
        refine x_pickt hb106 hA (fun ac hA => ?_) rfl rfl rfl rfl rfl rfl
        refine x_move hA (fun ac hA => ?_) rfl rfl rfl rfl rfl
        refine bcase (b := decide (a0.f2 ≤ 1099511627776)) (fun hb107 => ?_) fun hb107 => ?_
        · replace hF := ift hb107 hF
          refine x_on hb107 hA ?_ rfl rfl rfl
          refine x_fab fa30_3 hA (fun ac hA => ?_) rfl rfl rfl rfl rfl
          refine x_on hb107 hA ?_ rfl rfl rfl
          refine x_ld Try.underlying9 (hS.cell 0 rfl 3 _ rfl) hA (fun ac hA => ?_) rfl rfl rfl rfl rfl rfl
          refine x_on hb107 hA ?_ rfl rfl rfl
          refine x_val hA (r_lenS Try.underlying9 rfl (hA.ev rfl)) (fun ac hA => ?_) rfl rfl rfl
          refine x_on hb107 hA ?_ rfl rfl rfl
          refine x_val hA (r_leI rfl (hA.ev rfl) (hA.ev rfl)) (fun ac hA => ?_) rfl rfl rfl
          refine x_pickt hb107 hA (fun ac hA => ?_) rfl rfl rfl rfl rfl rfl
          refine x_move hA (fun ac hA => ?_) rfl rfl rfl rfl rfl
          refine bcase (b := decide ((a0.f3.length : Int) ≤ 32)) (fun hb108 => ?_) fun hb108 => ?_
          · replace hF := ift hb108 hF
            refine x_on hb108 hA ?_ rfl rfl rfl
            refine x_fab fa30_0 hA (fun ac hA => ?_) rfl rfl rfl rfl rfl
            refine x_on hb108 hA ?_ rfl rfl rfl
            refine x_ld Try.underlying27 (hS.cell 0 rfl 0 _ rfl) hA (fun ac hA => ?_) rfl rfl rfl rfl rfl rfl
            refine x_on hb108 hA ?_ rfl rfl rfl
            refine x_val hA (r_ltI rfl (hA.ev rfl) (hA.ev rfl)) (fun ac hA => ?_) rfl rfl rfl
            refine x_pickt hb108 hA (fun ac hA => ?_) rfl rfl rfl rfl rfl rfl
            refine x_assign hA (fun ac hA => ?_) rfl rfl rfl rfl rfl
            refine wpList_nil ?_
            refine hK103 _ _ ?_
            refine wp_ret ?_
            replace hS := hS.drop 0
            cases hF
            refine hQ _ _ ?_
            refine lv Try.results21 hA rfl ?_
            exact ⟨rfl, hS⟩
          replace hF := iff' hb108 hF
          refine x_off hb108 hA (fun ac hA => ?_) rfl rfl rfl rfl rfl
          refine x_off hb108 hA (fun ac hA => ?_) rfl rfl rfl rfl rfl
          refine x_off hb108 hA (fun ac hA => ?_) rfl rfl rfl rfl rfl
          refine x_pickf hb108 hA (fun ac hA => ?_) rfl rfl rfl rfl rfl rfl
          refine x_assign hA (fun ac hA => ?_) rfl rfl rfl rfl rfl
          refine wpList_nil ?_
          refine hK103 _ _ ?_
          refine wp_ret ?_
          replace hS := hS.drop 0
          cases hF
          refine hQ _ _ ?_
          refine lv Try.results21 hA rfl ?_
          exact ⟨rfl, hS⟩
        replace hF := iff' hb107 hF
        refine x_off hb107 hA (fun ac hA => ?_) rfl rfl rfl rfl rfl
        refine x_off hb107 hA (fun ac hA => ?_) rfl rfl rfl rfl rfl
        refine x_off hb107 hA (fun ac hA => ?_) rfl rfl rfl rfl rfl
        refine x_off hb107 hA (fun ac hA => ?_) rfl rfl rfl rfl rfl
        refine x_pickf hb107 hA (fun ac hA => ?_) rfl rfl rfl rfl rfl rfl
        refine x_move hA (fun ac hA => ?_) rfl rfl rfl rfl rfl
        refine x_off rfl hA (fun ac hA => ?_) rfl rfl rfl rfl rfl
        refine x_off rfl hA (fun ac hA => ?_) rfl rfl rfl rfl rfl
        refine x_off rfl hA (fun ac hA => ?_) rfl rfl rfl rfl rfl
        refine x_pickf rfl hA (fun ac hA => ?_) rfl rfl rfl rfl rfl rfl
        refine x_assign hA (fun ac hA => ?_) rfl rfl rfl rfl rfl
        refine wpList_nil ?_
        refine hK103 _ _ ?_
        refine wp_ret ?_
        replace hS := hS.drop 0
        cases hF
        refine hQ _ _ ?_
        refine lv Try.results21 hA rfl ?_
        exact ⟨rfl, hS⟩
      replace hF := iff' hb106 hF
      refine x_off hb106 hA (fun ac hA => ?_) rfl rfl rfl rfl rfl
      refine x_off hb106 hA (fun ac hA => ?_) rfl rfl rfl rfl rfl
      refine x_off hb106 hA (fun ac hA => ?_) rfl rfl rfl rfl rfl
      refine x_pickf hb106 hA (fun ac hA => ?_) rfl rfl rfl rfl rfl rfl
      refine x_move hA (fun ac hA => ?_) rfl rfl rfl rfl rfl
      refine x_off rfl hA (fun ac hA => ?_) rfl rfl rfl rfl rfl
      refine x_off rfl hA (fun ac hA => ?_) rfl rfl rfl rfl rfl
      refine x_off rfl hA (fun ac hA => ?_) rfl rfl rfl rfl rfl
      refine x_off rfl hA (fun ac hA => ?_) rfl rfl rfl rfl rfl
      refine x_pickf rfl hA (fun ac hA => ?_) rfl rfl rfl rfl rfl rfl
      refine x_move hA (fun ac hA => ?_) rfl rfl rfl rfl rfl
      refine x_off rfl hA (fun ac hA => ?_) rfl rfl rfl rfl rfl
      refine x_off rfl hA (fun ac hA => ?_) rfl rfl rfl rfl rfl
      refine x_off rfl hA (fun ac hA => ?_) rfl rfl rfl rfl rfl
      refine x_pickf rfl hA (fun ac hA => ?_) rfl rfl rfl rfl rfl rfl
      refine x_assign hA (fun ac hA => ?_) rfl rfl rfl rfl rfl
      refine wpList_nil ?_
      refine hK103 _ _ ?_
      refine wp_ret ?_
      replace hS := hS.drop 0
      cases hF
      refine hQ _ _ ?_
      refine lv Try.results21 hA rfl ?_
      exact ⟨rfl, hS⟩
    replace hF := iff' hb105 hF
    refine x_off hb105 hA (fun ac hA => ?_) rfl rfl rfl rfl rfl
    refine x_off hb105 hA (fun ac hA => ?_) rfl rfl rfl rfl rfl
    refine x_off hb105 hA (fun ac hA => ?_) rfl rfl rfl rfl rfl
    refine x_pickf hb105 hA (fun ac hA => ?_) rfl rfl rfl rfl rfl rfl
    refine x_move hA (fun ac hA => ?_) rfl rfl rfl rfl rfl
    refine x_off rfl hA (fun ac hA => ?_) rfl rfl rfl rfl rfl
    refine x_off rfl hA (fun ac hA => ?_) rfl rfl rfl rfl rfl
    refine x_off rfl hA (fun ac hA => ?_) rfl rfl rfl rfl rfl
    refine x_pickf rfl hA (fun ac hA => ?_) rfl rfl rfl rfl rfl rfl
    refine x_move hA (fun ac hA => ?_) rfl rfl rfl rfl rfl
    refine x_off rfl hA (fun ac hA => ?_) rfl rfl rfl rfl rfl
    refine x_off rfl hA (fun ac hA => ?_) rfl rfl rfl rfl rfl
    refine x_off rfl hA (fun ac hA => ?_) rfl rfl rfl rfl rfl
    refine x_off rfl hA (fun ac hA => ?_) rfl rfl rfl rfl rfl
    refine x_pickf rfl hA (fun ac hA => ?_) rfl rfl rfl rfl rfl rfl
    refine x_move hA (fun ac hA => ?_) rfl rfl rfl rfl rfl
    refine x_off rfl hA (fun ac hA => ?_) rfl rfl rfl rfl rfl
    refine x_off rfl hA (fun ac hA => ?_) rfl rfl rfl rfl rfl
    refine x_off rfl hA (fun ac hA => ?_) rfl rfl rfl rfl rfl
    refine x_pickf rfl hA (fun ac hA => ?_) rfl rfl rfl rfl rfl rfl
    refine x_assign hA (fun ac hA => ?_) rfl rfl rfl rfl rfl
    refine wpList_nil ?_
    refine hK103 _ _ ?_
    refine wp_ret ?_
    replace hS := hS.drop 0
    cases hF
    refine hQ _ _ ?_
    refine lv Try.results21 hA rfl ?_
    exact ⟨rfl, hS⟩
  replace hF := iff' hb104 hF
  refine x_off hb104 hA (fun ac hA => ?_) rfl rfl rfl rfl rfl
  refine x_off hb104 hA (fun ac hA => ?_) rfl rfl rfl rfl rfl
  refine x_off hb104 hA (fun ac hA => ?_) rfl rfl rfl rfl rfl
  refine x_off hb104 hA (fun ac hA => ?_) rfl rfl rfl rfl rfl
  refine x_pickf hb104 hA (fun ac hA => ?_) rfl rfl rfl rfl rfl rfl
  refine x_move hA (fun ac hA => ?_) rfl rfl rfl rfl rfl
  refine x_off rfl hA (fun ac hA => ?_) rfl rfl rfl rfl rfl
  refine x_off rfl hA (fun ac hA => ?_) rfl rfl rfl rfl rfl
  refine x_off rfl hA (fun ac hA => ?_) rfl rfl rfl rfl rfl
  refine x_pickf rfl hA (fun ac hA => ?_) rfl rfl rfl rfl rfl rfl
  refine x_move hA (fun ac hA => ?_) rfl rfl rfl rfl rfl
  refine x_off rfl hA (fun ac hA => ?_) rfl rfl rfl rfl rfl
  refine x_off rfl hA (fun ac hA => ?_) rfl rfl rfl rfl rfl
  refine x_off rfl hA (fun ac hA => ?_) rfl rfl rfl rfl rfl
  refine x_pickf rfl hA (fun ac hA => ?_) rfl rfl rfl rfl rfl rfl
  refine x_move hA (fun ac hA => ?_) rfl rfl rfl rfl rfl
  refine x_off rfl hA (fun ac hA => ?_) rfl rfl rfl rfl rfl
  refine x_off rfl hA (fun ac hA => ?_) rfl rfl rfl rfl rfl
  refine x_off rfl hA (fun ac hA => ?_) rfl rfl rfl rfl rfl
  refine x_off rfl hA (fun ac hA => ?_) rfl rfl rfl rfl rfl
  refine x_pickf rfl hA (fun ac hA => ?_) rfl rfl rfl rfl rfl rfl
  refine x_move hA (fun ac hA => ?_) rfl rfl rfl rfl rfl
  refine x_off rfl hA (fun ac hA => ?_) rfl rfl rfl rfl rfl
  refine x_off rfl hA (fun ac hA => ?_) rfl rfl rfl rfl rfl
  refine x_off rfl hA (fun ac hA => ?_) rfl rfl rfl rfl rfl
  refine x_pickf rfl hA (fun ac hA => ?_) rfl rfl rfl rfl rfl rfl
  refine x_assign hA (fun ac hA => ?_) rfl rfl rfl rfl rfl
  refine wpList_nil ?_
  refine hK103 _ _ ?_
  refine wp_ret ?_
  replace hS := hS.drop 0
  cases hF
  refine hQ _ _ ?_
  refine lv Try.results21 hA rfl ?_
  exact ⟨rfl, hS⟩

set_option maxHeartbeats 4000000 in
theorem F_r06_Form {r : World} {L : List HP} {w : World} (a0 : S30) (a1 : Int) {y : (Bool)} (hF : r06_Form a0 a1 = some y) (hS : SH r (L) w) :
    Ret Try.prog 22 #[.agg #[.int .u64 a0.f0, .int .i64 a0.f1, .int .i64 a0.f2, str a0.f3, .float .f64 a0.f4], .int .i64 a1] w fun v w' => v = .bool y ∧ SH r (L) w' := by
  refine enter Try.func22 rfl Try.ntmps22 [(0, .agg #[.int .u64 a0.f0, .int .i64 a0.f1, .int .i64 a0.f2, str a0.f3, .float .f64 a0.f4]), (1, .int .i64 a1)] rfl (by simp) ?_
  intro ac hA Qf hQ hQn
  unfold r06_Form at hF
  refine wp_seq_k fun K101 hK101 => ?_
  refine wp_reg ?_
  refine x_box hA hS (fun g102 ac w hS hA => ?_) rfl rfl rfl rfl rfl rfl
  refine x_assign hA (fun ac hA => ?_) rfl rfl rfl rfl rfl
  refine wpList_nil ?_
  refine hK101 _ _ ?_
  refine wp_seq_k fun K103 hK103 => ?_
  refine wp_reg ?_
  refine x_fab fa30_1 hA (fun ac hA => ?_) rfl rfl rfl rfl rfl
  refine x_ld Try.underlying3 (hS.cell 0 rfl 1 _ rfl) hA (fun ac hA => ?_) rfl rfl rfl rfl rfl rfl
  refine x_val hA (r_geI rfl (hA.ev rfl) (hA.ev rfl)) (fun ac hA => ?_) rfl rfl rfl
  refine x_move hA (fun ac hA => ?_) rfl rfl rfl rfl rfl
  refine bcase (b := decide (0 ≤ a0.f1)) (fun hb104 => ?_) fun hb104 => ?_
  · replace hF := ift hb104 hF
    refine x_on hb104 hA ?_ rfl rfl rfl
    refine x_fab fa30_1 hA (fun ac hA => ?_) rfl rfl rfl rfl rfl
    refine x_on hb104 hA ?_ rfl rfl rfl
    refine x_ld Try.underlying3 (hS.cell 0 rfl 1 _ rfl) hA (fun ac hA => ?_) rfl rfl rfl rfl rfl rfl
    refine x_on hb104 hA ?_ rfl rfl rfl
    refine x_move hA (fun ac hA => ?_) rfl rfl rfl rfl rfl
    refine x_on hb104 hA ?_ rfl rfl rfl
    refine x_val hA (r_ltI rfl (hA.ev rfl) (hA.ev rfl)) (fun ac hA => ?_) rfl rfl rfl
    refine x_pickt hb104 hA (fun ac hA => ?_) rfl rfl rfl rfl rfl rfl
    refine x_move hA (fun ac hA => ?_) rfl rfl rfl rfl rfl
    refine bcase (b := decide (a0.f1 < a1)) (fun hb105 => ?_) fun hb105 => ?_
    · replace hF := ift hb105 hF
      refine x_on hb105 hA ?_ rfl rfl rfl
      refine x_fab fa30_2 hA (fun ac hA => ?_) rfl rfl rfl rfl rfl
      refine x_on hb105 hA ?_ rfl rfl rfl
      refine x_ld Try.underlying2 (hS.cell 0 rfl 2 _ rfl) hA (fun ac hA => ?_) rfl rfl rfl rfl rfl rfl
      refine x_on hb105 hA ?_ rfl rfl rfl
      refine x_val hA (r_geI rfl (hA.ev rfl) (hA.ev rfl)) (fun ac hA => ?_) rfl rfl rfl
      refine x_pickt hb105 hA (fun ac hA => ?_) rfl rfl rfl rfl rfl rfl
      refine x_move hA (fun ac hA => ?_) rfl rfl rfl rfl rfl
      refine bcase (b := decide (-1099511627776 ≤ a0.f2)) (fun hb106 => ?_) fun hb106 => ?_
      · replace hF := ift hb106 hF
        refine x_on hb106 hA ?_ rfl rfl rfl
        refine x_fab fa30_2 hA (fun ac hA => ?_) rfl rfl rfl rfl rfl
        refine x_on hb106 hA ?_ rfl rfl rfl
        refine x_ld Try.underlying2 (hS.cell 0 rfl 2 _ rfl) hA (fun ac hA => ?_) rfl rfl rfl rfl rfl rfl
        refine x_on hb106 hA ?_ rfl rfl rfl
        refine x_val hA (r_leI rfl (hA.ev rfl) (hA.ev rfl)) (fun ac hA => ?_) rfl rfl rfl
        refine x_pickt hb106 hA (fun ac hA => ?_) rfl rfl rfl rfl rfl rfl
        refine x_move hA (fun ac hA => ?_) rfl rfl rfl rfl rfl
        refine bcase (b := decide (a0.f2 ≤ 1099511627776)) (fun hb107 => ?_) fun hb107 => ?_
        · replace hF := ift hb107 hF
          refine x_on hb107 hA ?_ rfl rfl rfl
          refine x_fab fa30_3 hA (fun ac hA => ?_) rfl rfl rfl rfl rfl
          refine x_on hb107 hA ?_ rfl rfl rfl
          refine x_ld Try.underlying9 (hS.cell 0 rfl 3 _ rfl) hA (fun ac hA => ?_) rfl rfl rfl rfl rfl rfl
          refine x_on hb107 hA ?_ rfl rfl rfl
          refine x_val hA (r_lenS Try.underlying9 rfl (hA.ev rfl)) (fun ac hA => ?_) rfl rfl rfl
          refine x_on hb107 hA ?_ rfl rfl rfl
          refine x_val hA (r_leI rfl (hA.ev rfl) (hA.ev rfl)) (fun ac hA => ?_) rfl rfl rfl
          refine x_pickt hb107 hA (fun ac hA => ?_) rfl rfl rfl rfl rfl rfl
          refine x_move hA (fun ac hA => ?_) rfl rfl rfl rfl rfl
          refine bcase (b := decide ((a0.f3.length : Int) ≤ 32)) (fun hb108 => ?_) fun hb108 => ?_
          · replace hF := ift hb108 hF
            refine x_on hb108 hA ?_ rfl rfl rfl
            refine x_fab fa30_0 hA (fun ac hA => ?_) rfl rfl rfl rfl rfl
            refine x_on hb108 hA ?_ rfl rfl rfl
            refine x_ld Try.underlying27 (hS.cell 0 rfl 0 _ rfl) hA (fun ac hA => ?_) rfl rfl rfl rfl rfl rfl
            refine x_on hb108 hA ?_ rfl rfl rfl
            refine x_val hA (r_ltI rfl (hA.ev rfl) (hA.ev rfl)) (fun ac hA => ?_) rfl rfl rfl
            refine x_pickt hb108 hA (fun ac hA => ?_) rfl rfl rfl rfl rfl rfl
            refine x_assign hA (fun ac hA => ?_) rfl rfl rfl rfl rfl
            refine wpList_nil ?_
            refine hK103 _ _ ?_
            refine wp_ret ?_
            replace hS := hS.drop 0
            cases hF
            refine hQ _ _ ?_
            refine lv Try.results22 hA rfl ?_
            exact ⟨rfl, hS⟩
          replace hF := iff' hb108 hF
          refine x_off hb108 hA (fun ac hA => ?_) rfl rfl rfl rfl rfl
          refine x_off hb108 hA (fun ac hA => ?_) rfl rfl rfl rfl rfl
          refine x_off hb108 hA (fun ac hA => ?_) rfl rfl rfl rfl rfl
          refine x_pickf hb108 hA (fun ac hA => ?_) rfl rfl rfl rfl rfl rfl
          refine x_assign hA (fun ac hA => ?_) rfl rfl rfl rfl rfl
          refine wpList_nil ?_
          refine hK103 _ _ ?_
          refine wp_ret ?_
          replace hS := hS.drop 0
          cases hF
          refine hQ _ _ ?_
          refine lv Try.results22 hA rfl ?_
          exact ⟨rfl, hS⟩
        replace hF := iff' hb107 hF
        refine x_off hb107 hA (fun ac hA => ?_) rfl rfl rfl rfl rfl
        refine x_off hb107 hA (fun ac hA => ?_) rfl rfl rfl rfl rfl
        refine x_off hb107 hA (fun ac hA => ?_) rfl rfl rfl rfl rfl
        refine x_off hb107 hA (fun ac hA => ?_) rfl rfl rfl rfl rfl
        refine x_pickf hb107 hA (fun ac hA => ?_) rfl rfl rfl rfl rfl rfl
        refine x_move hA (fun ac hA => ?_) rfl rfl rfl rfl rfl
        refine x_off rfl hA (fun ac hA => ?_) rfl rfl rfl rfl rfl
        refine x_off rfl hA (fun ac hA => ?_) rfl rfl rfl rfl rfl
        refine x_off rfl hA (fun ac hA => ?_) rfl rfl rfl rfl rfl
        refine x_pickf rfl hA (fun ac hA => ?_) rfl rfl rfl rfl rfl rfl
        refine x_assign hA (fun ac hA => ?_) rfl rfl rfl rfl rfl
        refine wpList_nil ?_
        refine hK103 _ _ ?_
        refine wp_ret ?_
        replace hS := hS.drop 0
        cases hF
        refine hQ _ _ ?_
        refine lv Try.results22 hA rfl ?_
        exact ⟨rfl, hS⟩
      replace hF := iff' hb106 hF
      refine x_off hb106 hA (fun ac hA => ?_) rfl rfl rfl rfl rfl
      refine x_off hb106 hA (fun ac hA => ?_) rfl rfl rfl rfl rfl
      refine x_off hb106 hA (fun ac hA => ?_) rfl rfl rfl rfl rfl
      refine x_pickf hb106 hA (fun ac hA => ?_) rfl rfl rfl rfl rfl rfl
      refine x_move hA (fun ac hA => ?_) rfl rfl rfl rfl rfl
      refine x_off rfl hA (fun ac hA => ?_) rfl rfl rfl rfl rfl
      refine x_off rfl hA (fun ac hA => ?_) rfl rfl rfl rfl rfl
      refine x_off rfl hA (fun ac hA => ?_) rfl rfl rfl rfl rfl
      refine x_off rfl hA (fun ac hA => ?_) rfl rfl rfl rfl rfl
      refine x_pickf rfl hA (fun ac hA => ?_) rfl rfl rfl rfl rfl rfl
      refine x_move hA (fun ac hA => ?_) rfl rfl rfl rfl rfl
      refine x_off rfl hA (fun ac hA => ?_) rfl rfl rfl rfl rfl
      refine x_off rfl hA (fun ac hA => ?_) rfl rfl rfl rfl rfl
      refine x_off rfl hA (fun ac hA => ?_) rfl rfl rfl rfl rfl
      refine x_pickf rfl hA (fun ac hA => ?_) rfl rfl rfl rfl rfl rfl
      refine x_assign hA (fun ac hA => ?_) rfl rfl rfl rfl rfl
      refine wpList_nil ?_
      refine hK103 _ _ ?_
      refine wp_ret ?_
      replace hS := hS.drop 0
      cases hF
      refine hQ _ _ ?_
      refine lv Try.results22 hA rfl ?_
      exact ⟨rfl, hS⟩
    replace hF := iff' hb105 hF
    refine x_off hb105 hA (fun ac hA => ?_) rfl rfl rfl rfl rfl
    refine x_off hb105 hA (fun ac hA => ?_) rfl rfl rfl rfl rfl
    refine x_off hb105 hA (fun ac hA => ?_) rfl rfl rfl rfl rfl
    refine x_pickf hb105 hA (fun ac hA => ?_) rfl rfl rfl rfl rfl rfl
    refine x_move hA (fun ac hA => ?_) rfl rfl rfl rfl rfl
    refine x_off rfl hA (fun ac hA => ?_) rfl rfl rfl rfl rfl
    refine x_off rfl hA (fun ac hA => ?_) rfl rfl rfl rfl rfl
    refine x_off rfl hA (fun ac hA => ?_) rfl rfl rfl rfl rfl
    refine x_pickf rfl hA (fun ac hA => ?_) rfl rfl rfl rfl rfl rfl
    refine x_move hA (fun ac hA => ?_) rfl rfl rfl rfl rfl
    refine x_off rfl hA (fun ac hA => ?_) rfl rfl rfl rfl rfl
    refine x_off rfl hA (fun ac hA => ?_) rfl rfl rfl rfl rfl
    refine x_off rfl hA (fun ac hA => ?_) rfl rfl rfl rfl rfl
    refine x_off rfl hA (fun ac hA => ?_) rfl rfl rfl rfl rfl
    refine x_pickf rfl hA (fun ac hA => ?_) rfl rfl rfl rfl rfl rfl
    refine x_move hA (fun ac hA => ?_) rfl rfl rfl rfl rfl
    refine x_off rfl hA (fun ac hA => ?_) rfl rfl rfl rfl rfl
    refine x_off rfl hA (fun ac hA => ?_) rfl rfl rfl rfl rfl
    refine x_off rfl hA (fun ac hA => ?_) rfl rfl rfl rfl rfl
    refine x_pickf rfl hA (fun ac hA => ?_) rfl rfl rfl rfl rfl rfl
    refine x_assign hA (fun ac hA => ?_) rfl rfl rfl rfl rfl
    refine wpList_nil ?_
    refine hK103 _ _ ?_
    refine wp_ret ?_
    replace hS := hS.drop 0
    cases hF
    refine hQ _ _ ?_
    refine lv Try.results22 hA rfl ?_
    exact ⟨rfl, hS⟩
  replace hF := iff' hb104 hF
  refine x_off hb104 hA (fun ac hA => ?_) rfl rfl rfl rfl rfl
  refine x_off hb104 hA (fun ac hA => ?_) rfl rfl rfl rfl rfl
  refine x_off hb104 hA (fun ac hA => ?_) rfl rfl rfl rfl rfl
  refine x_off hb104 hA (fun ac hA => ?_) rfl rfl rfl rfl rfl
  refine x_pickf hb104 hA (fun ac hA => ?_) rfl rfl rfl rfl rfl rfl
  refine x_move hA (fun ac hA => ?_) rfl rfl rfl rfl rfl
  refine x_off rfl hA (fun ac hA => ?_) rfl rfl rfl rfl rfl
  refine x_off rfl hA (fun ac hA => ?_) rfl rfl rfl rfl rfl
  refine x_off rfl hA (fun ac hA => ?_) rfl rfl rfl rfl rfl
  refine x_pickf rfl hA (fun ac hA => ?_) rfl rfl rfl rfl rfl rfl
  refine x_move hA (fun ac hA => ?_) rfl rfl rfl rfl rfl
  refine x_off rfl hA (fun ac hA => ?_) rfl rfl rfl rfl rfl
  refine x_off rfl hA (fun ac hA => ?_) rfl rfl rfl rfl rfl
  refine x_off rfl hA (fun ac hA => ?_) rfl rfl rfl rfl rfl
  refine x_pickf rfl hA (fun ac hA => ?_) rfl rfl rfl rfl rfl rfl
  refine x_move hA (fun ac hA => ?_) rfl rfl rfl rfl rfl
  refine x_off rfl hA (fun ac hA => ?_) rfl rfl rfl rfl rfl
  refine x_off rfl hA (fun ac hA => ?_) rfl rfl rfl rfl rfl
  refine x_off rfl hA (fun ac hA => ?_) rfl rfl rfl rfl rfl
  refine x_off rfl hA (fun ac hA => ?_) rfl rfl rfl rfl rfl
  refine x_pickf rfl hA (fun ac hA => ?_) rfl rfl rfl rfl rfl rfl
  refine x_move hA (fun ac hA => ?_) rfl rfl rfl rfl rfl
  refine x_off rfl hA (fun ac hA => ?_) rfl rfl rfl rfl rfl
  refine x_off rfl hA (fun ac hA => ?_) rfl rfl rfl rfl rfl
  refine x_off rfl hA (fun ac hA => ?_) rfl rfl rfl rfl rfl
  refine x_pickf rfl hA (fun ac hA => ?_) rfl rfl rfl rfl rfl rfl
  refine x_assign hA (fun ac hA => ?_) rfl rfl rfl rfl rfl
  refine wpList_nil ?_
  refine hK103 _ _ ?_
  refine wp_ret ?_
  replace hS := hS.drop 0
  cases hF
  refine hQ _ _ ?_
  refine lv Try.results22 hA rfl ?_
  exact ⟨rfl, hS⟩
end Go.Proofs.Ytpanacifejpjhaa.M
