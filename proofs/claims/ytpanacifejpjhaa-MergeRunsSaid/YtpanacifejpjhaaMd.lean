/- The calls come to the plain functions. -/
import Derived.Test.YtpanacifejpjhaaMc
import Derived.Test.YtpanacifejpjhaaDd
namespace Go.Proofs.Ytpanacifejpjhaa.M
open Go Go.RowKit Go.Proofs.Ytpanacifejpjhaa.E
set_option linter.unusedVariables false
set_option linter.unusedSimpArgs false

set_option maxHeartbeats 4000000 in
theorem F_law09_MergeRuns {r : World} {L : List HP} {w : World} {Z : Nat → Prop} {wz : World} (a0 : (List (List S30))) (A0 : Option Addr) (n0 : Nat) (c0 : Nat) {y : (Bool)} (hF : law09_MergeRuns a0 = some y) (ha0 : Imm Z wz (kM Z wz k30) A0 n0 c0 a0) (hS : SH r (zone Z wz :: L) w) :
    Ret Try.prog 5 #[.slice A0 n0 c0] w fun v w' => ∃ (Z' : Nat → Prop) (wz' : World), v = .bool y ∧ Sub Z wz Z' wz' ∧ SH r (zone Z' wz' :: L) w' := by
  refine enter Try.func5 rfl Try.ntmps5 [(0, .slice A0 n0 c0)] rfl (by simp) ?_
  intro ac hA Qf hQ hQn
  unfold law09_MergeRuns at hF
  refine wp_seq_k fun K101 hK101 => ?_
  refine wp_reg ?_
  refine x_assign hA (fun ac hA => ?_) rfl rfl rfl rfl rfl
  refine wpList_nil ?_
  refine hK101 _ _ ?_
  refine wp_seq_k fun K102 hK102 => ?_
  refine wp_seq_k fun K103 hK103 => ?_
  have hj1 : ∀ (b117 : Bool), law09_MergeRuns_j1 a0 b117 = some y → ∀ (Z113 : Nat → Prop) (wz114 : World) (h115 : Sub Z wz Z113 wz114) (h116 : Imm Z113 wz114 (kM Z113 wz114 k30) A0 n0 c0 a0) (ac : Act) (w : World), FR 209 [] ac [(0, .slice A0 n0 c0), (30, .bool b117)] → SH r (zone Z113 wz114 :: L) w → K103 ac w := by
    intro b117 hF Z113 wz114 h115 h116 ac w hA hS
    unfold law09_MergeRuns_j1 at hF
    refine hK103 _ _ ?_
    refine c_if hA rfl (fun hb118 => ?_) fun hb118 => ?_
    · replace hF := ift hb118 hF
      refine wp_seq_k fun K119 hK119 => ?_
      refine wp_reg ?_
      obtain ⟨y120, h121, hF⟩ := bnd hF
      refine x_call en10 hA (F_law09_awake (L := L) h121 hS) (fun v ac w hR hA => ?_) rfl rfl rfl rfl rfl
      obtain ⟨Z122, wz123, rfl, h124, hS⟩ := hR
      have h125 := Imm.kind (d' := (kM Z122 wz123 k30)) (Imm.sub h116 h124) rfl (kM_sub h124)
      refine x_assign hA (fun ac hA => ?_) rfl rfl rfl rfl rfl
      refine wpList_nil ?_
      refine hK119 _ _ ?_
      refine wp_ret ?_
      cases hF
      refine hQ _ _ ?_
      refine lv Try.results5 hA rfl ?_
      exact ⟨Z122, wz123, rfl, (Sub.trans h115 h124), hS⟩
    replace hF := iff' hb118 hF
    refine wp_skip ?_
    refine hK102 _ _ ?_
    refine wp_seq_k fun K126 hK126 => ?_
    refine wp_reg ?_
    refine x_assign hA (fun ac hA => ?_) rfl rfl rfl rfl rfl
    refine wpList_nil ?_
    refine hK126 _ _ ?_
    refine wp_seq_k fun K127 hK127 => ?_
    refine wp_reg ?_
    refine x_assign hA (fun ac hA => ?_) rfl rfl rfl rfl rfl
    refine wpList_nil ?_
    refine hK127 _ _ ?_
    refine wp_seq_k fun K128 hK128 => ?_
    refine wp_seq_k fun K484 hK484 => ?_
    refine wp_reg ?_
    refine x_assign hA (fun ac hA => ?_) rfl rfl rfl rfl rfl
    refine wpList_nil ?_
    refine hK484 _ _ ?_
    refine wp_block_k fun Kx485 hKx485 => ?_
    have hb1 : ∀ (l660 : (List (List S30))) (l664 : (List S30)), law09_MergeRuns_b1 a0 l660 l664 = some y → ∀ (Z656 : Nat → Prop) (wz657 : World) (A661 : Option Addr) (n662 : Nat) (c663 : Nat) (A665 : Option Addr) (n666 : Nat) (c667 : Nat) (h658 : Sub Z wz Z656 wz657) (h659 : Imm Z656 wz657 (kM Z656 wz657 k30) A0 n0 c0 a0) (ac : Act) (w : World), FR 209 [] ac [(0, .slice A0 n0 c0), (3, .slice A661 n662 c663), (4, .slice A665 n666 c667)] → SH r (own (kM Z656 wz657 k30) 25 A661 n662 c663 l660 :: own k30 30 A665 n666 c667 l664 :: zone Z656 wz657 :: L) w → Kx485 ac w := by
      intro l660 l664 hF Z656 wz657 A661 n662 c663 A665 n666 c667 h658 h659 ac w hA hS
      unfold law09_MergeRuns_b1 at hF
      refine hKx485 _ _ ?_
      refine hK128 _ _ ?_
      refine wp_seq_k fun K668 hK668 => ?_
      refine wp_reg ?_
      refine x_move hA (fun ac hA => ?_) rfl rfl rfl rfl rfl
      obtain ⟨y669, h670, hF⟩ := bnd hF
      refine x_call en13 hA (F_merge_New (L := own (kM Z656 wz657 k30) 25 A661 n662 c663 l660 :: own k30 30 A665 n666 c667 l664 :: zone Z656 wz657 :: L) l660 A661 n662 c663 h670 2 rfl (RdL.own 0 rfl (hS.dropN 0)) hS) (fun v ac w hR hA => ?_) rfl rfl rfl rfl rfl
      obtain ⟨p671, rfl, hS⟩ := hR
      refine x_move hA (fun ac hA => ?_) rfl rfl rfl rfl rfl
      refine x_val hA (r_extract rfl (hA.ev rfl) rfl) (fun ac hA => ?_) rfl rfl rfl
      refine x_val hA (r_extract rfl (hA.ev rfl) rfl) (fun ac hA => ?_) rfl rfl rfl
      refine x_assign hA (fun ac hA => ?_) rfl rfl rfl rfl rfl
      refine x_assign hA (fun ac hA => ?_) rfl rfl rfl rfl rfl
      refine wpList_nil ?_
      refine hK668 _ _ ?_
      refine wp_seq_k fun K672 hK672 => ?_
      refine wp_reg ?_
      refine x_move hA (fun ac hA => ?_) rfl rfl rfl rfl rfl
      obtain ⟨y673, h674, hF⟩ := bnd hF
      refine x_call en14 hA (F_merge_All (L := optP (obj48 Z656 wz657) p671 y669.1 :: own (kM Z656 wz657 k30) 25 A661 n662 c663 l660 :: own k30 30 A665 n666 c667 l664 :: zone Z656 wz657 :: L) l660 A661 n662 c663 h674 3 rfl (RdL.own 1 rfl (hS.dropN 0)) hS) (fun v ac w hR hA => ?_) rfl rfl rfl rfl rfl
      obtain ⟨B675, m676, d677, rfl, hS⟩ := hR
      refine x_move hA (fun ac hA => ?_) rfl rfl rfl rfl rfl
      refine x_val hA (r_extract rfl (hA.ev rfl) rfl) (fun ac hA => ?_) rfl rfl rfl
      refine x_val hA (r_extract rfl (hA.ev rfl) rfl) (fun ac hA => ?_) rfl rfl rfl
      refine x_assign hA (fun ac hA => ?_) rfl rfl rfl rfl rfl
      refine x_assign hA (fun ac hA => ?_) rfl rfl rfl rfl rfl
      refine wpList_nil ?_
      refine hK672 _ _ ?_
      refine wp_seq_k fun K678 hK678 => ?_
      refine wp_seq_k fun K679 hK679 => ?_
      have hj2 : ∀ (b681 : Bool), law09_MergeRuns_j2 a0 l660 l664 y669 y673 b681 = some y → ∀ (ac : Act) (w : World), FR 209 [] ac [(0, .slice A0 n0 c0), (3, .slice A661 n662 c663), (4, .slice A665 n666 c667), (7, .pointer p671), (8, .int .i64 y669.2), (9, .slice B675 m676 d677), (10, .int .i64 y673.2), (67, .bool b681)] → SH r (optP (obj48 Z656 wz657) p671 y669.1 :: own (kM Z656 wz657 k30) 25 A661 n662 c663 l660 :: own k30 30 A665 n666 c667 l664 :: own k30 30 B675 m676 d677 y673.1 :: zone Z656 wz657 :: L) w → K679 ac w := by
        intro b681 hF ac w hA hS
        unfold law09_MergeRuns_j2 at hF
        refine hK679 _ _ ?_
        refine c_if hA rfl (fun hb682 => ?_) fun hb682 => ?_
        · replace hF := ift hb682 hF
          refine wp_seq_k fun K683 hK683 => ?_
          refine wp_reg ?_
          refine x_move hA (fun ac hA => ?_) rfl rfl rfl rfl rfl
          refine x_val hA (r_eqI rfl (hA.ev rfl) (hA.ev rfl)) (fun ac hA => ?_) rfl rfl rfl
          refine x_move hA (fun ac hA => ?_) rfl rfl rfl rfl rfl
          refine bcase (b := y669.2 == 1) (fun hb684 => ?_) fun hb684 => ?_
          · replace hF := ift hb684 hF
            refine x_on hb684 hA ?_ rfl rfl rfl
            refine x_move hA (fun ac hA => ?_) rfl rfl rfl rfl rfl
            refine x_on hb684 hA ?_ rfl rfl rfl
            refine x_val hA (r_eqI rfl (hA.ev rfl) (hA.ev rfl)) (fun ac hA => ?_) rfl rfl rfl
            refine x_pickt hb684 hA (fun ac hA => ?_) rfl rfl rfl rfl rfl rfl
            refine x_move hA (fun ac hA => ?_) rfl rfl rfl rfl rfl
            refine bcase (b := y673.2 == 1) (fun hb685 => ?_) fun hb685 => ?_
            · replace hF := ift hb685 hF
              refine x_on hb685 hA ?_ rfl rfl rfl
              refine x_move hA (fun ac hA => ?_) rfl rfl rfl rfl rfl
              refine x_on hb685 hA ?_ rfl rfl rfl
              have hpo := hS.optNone 0 rfl
              refine x_val hA (hpo ▸ r_eqNilP Try.underlying31 rfl (hA.ev rfl) (hA.ev rfl)) (fun ac hA => ?_) rfl rfl rfl
              refine x_pickt hb685 hA (fun ac hA => ?_) rfl rfl rfl rfl rfl rfl
              refine x_assign hA (fun ac hA => ?_) rfl rfl rfl rfl rfl
              refine wpList_nil ?_
              refine hK683 _ _ ?_
              refine wp_ret ?_
              replace hS := hS.drop 0
              replace hS := hS.drop 0
              replace hS := hS.drop 0
              replace hS := hS.drop 0
              cases hF
              refine hQ _ _ ?_
              refine lv Try.results5 hA rfl ?_
              exact ⟨Z656, wz657, rfl, h658, hS⟩
            replace hF := iff' hb685 hF
            refine x_off hb685 hA (fun ac hA => ?_) rfl rfl rfl rfl rfl
            refine x_off hb685 hA (fun ac hA => ?_) rfl rfl rfl rfl rfl
            refine x_pickf hb685 hA (fun ac hA => ?_) rfl rfl rfl rfl rfl rfl
            refine x_assign hA (fun ac hA => ?_) rfl rfl rfl rfl rfl
            refine wpList_nil ?_
            refine hK683 _ _ ?_
            refine wp_ret ?_
            replace hS := hS.drop 0
            replace hS := hS.drop 0
            replace hS := hS.drop 0
            replace hS := hS.drop 0
            cases hF
            refine hQ _ _ ?_
            refine lv Try.results5 hA rfl ?_
            exact ⟨Z656, wz657, rfl, h658, hS⟩
          replace hF := iff' hb684 hF
          refine x_off hb684 hA (fun ac hA => ?_) rfl rfl rfl rfl rfl
          refine x_off hb684 hA (fun ac hA => ?_) rfl rfl rfl rfl rfl
          refine x_pickf hb684 hA (fun ac hA => ?_) rfl rfl rfl rfl rfl rfl
          refine x_move hA (fun ac hA => ?_) rfl rfl rfl rfl rfl
          refine x_off rfl hA (fun ac hA => ?_) rfl rfl rfl rfl rfl
          refine x_off rfl hA (fun ac hA => ?_) rfl rfl rfl rfl rfl
          refine x_pickf rfl hA (fun ac hA => ?_) rfl rfl rfl rfl rfl rfl
          refine x_assign hA (fun ac hA => ?_) rfl rfl rfl rfl rfl
          refine wpList_nil ?_
          refine hK683 _ _ ?_
          refine wp_ret ?_
          replace hS := hS.drop 0
          replace hS := hS.drop 0
          replace hS := hS.drop 0
          replace hS := hS.drop 0
          cases hF
          refine hQ _ _ ?_
          refine lv Try.results5 hA rfl ?_
          exact ⟨Z656, wz657, rfl, h658, hS⟩
        replace hF := iff' hb682 hF
        refine wp_skip ?_
        refine hK678 _ _ ?_
        refine wp_seq_k fun K686 hK686 => ?_
        refine wp_reg ?_
        refine x_move hA (fun ac hA => ?_) rfl rfl rfl rfl rfl
        obtain ⟨y687, h688, hF⟩ := bnd hF
        refine x_call en15 hA (F_r06_Sort (L := optP (obj48 Z656 wz657) p671 y669.1 :: own (kM Z656 wz657 k30) 25 A661 n662 c663 l660 :: own k30 30 A665 n666 c667 l664 :: own k30 30 B675 m676 d677 y673.1 :: zone Z656 wz657 :: L) l664 A665 n666 c667 h688 (RdL.own 2 rfl (hS.dropN 0)) hS) (fun v ac w hR hA => ?_) rfl rfl rfl rfl rfl
        obtain ⟨B689, m690, d691, rfl, hS⟩ := hR
        refine x_assign hA (fun ac hA => ?_) rfl rfl rfl rfl rfl
        refine wpList_nil ?_
        refine hK686 _ _ ?_
        refine wp_seq_k fun K692 hK692 => ?_
        refine wp_seq_k fun K693 hK693 => ?_
        have hj3 : ∀ (b698 : Bool), law09_MergeRuns_j3 a0 l660 y669 y687 b698 = some y → ∀ (ac : Act) (w : World), FR 209 [] ac [(0, .slice A0 n0 c0), (3, .slice A661 n662 c663), (7, .pointer p671), (11, .slice B689 m690 d691), (91, .bool b698)] → SH r (optP (obj48 Z656 wz657) p671 y669.1 :: own (kM Z656 wz657 k30) 25 A661 n662 c663 l660 :: own k30 30 B689 m690 d691 y687 :: zone Z656 wz657 :: L) w → K693 ac w := by
          intro b698 hF ac w hA hS
          unfold law09_MergeRuns_j3 at hF
          refine hK693 _ _ ?_
          refine c_if hA rfl (fun hb699 => ?_) fun hb699 => ?_
          · replace hF := ift hb699 hF
            refine wp_seq_k fun K700 hK700 => ?_
            refine wp_reg ?_
            refine x_assign hA (fun ac hA => ?_) rfl rfl rfl rfl rfl
            refine wpList_nil ?_
            refine hK700 _ _ ?_
            refine wp_ret ?_
            replace hS := hS.drop 0
            replace hS := hS.drop 0
            replace hS := hS.drop 0
            cases hF
            refine hQ _ _ ?_
            refine lv Try.results5 hA rfl ?_
            exact ⟨Z656, wz657, rfl, h658, hS⟩
          replace hF := iff' hb699 hF
          refine wp_skip ?_
          refine hK692 _ _ ?_
          refine wp_seq_k fun K701 hK701 => ?_
          refine wp_reg ?_
          refine x_move hA (fun ac hA => ?_) rfl rfl rfl rfl rfl
          refine x_len Try.underlying22 (hS.imm 3 h659 rfl).2.1 hA (fun ac hA => ?_) rfl rfl rfl rfl rfl
          obtain ⟨h702, hF⟩ := chk_some hF
          refine x_mks (d := (kI .i64)) (bytes := 8) 0 inf3 rfl Try.underlying41 h702 hA hS (fun g703 ac w hS hA => ?_) rfl rfl rfl rfl rfl rfl
          refine x_assign hA (fun ac hA => ?_) rfl rfl rfl rfl rfl
          refine wpList_nil ?_
          refine hK701 _ _ ?_
          refine wp_seq_k fun K704 hK704 => ?_
          refine wp_seq_k fun K5237 hK5237 => ?_
          refine wp_reg ?_
          refine x_assign hA (fun ac hA => ?_) rfl rfl rfl rfl rfl
          refine wpList_nil ?_
          refine hK5237 _ _ ?_
          refine wp_block_k fun Kx5238 hKx5238 => ?_
          have hb2 : ∀ (o7503 : (Option S48)), law09_MergeRuns_b2 o7503 = some y → ∀ (ac : Act) (w : World), FR 209 [] ac [(7, .pointer p671)] → SH r (optP (obj48 Z656 wz657) p671 o7503 :: zone Z656 wz657 :: L) w → Kx5238 ac w := by
            intro o7503 hF ac w hA hS
            unfold law09_MergeRuns_b2 at hF
            refine hKx5238 _ _ ?_
            refine hK704 _ _ ?_
            refine wp_seq_k fun K7504 hK7504 => ?_
            refine wp_reg ?_
            refine x_move hA (fun ac hA => ?_) rfl rfl rfl rfl rfl
            obtain ⟨y7505, h7506, hF⟩ := bnd hF
            refine x_call en17 hA (F_merge_Tree_Next (L := zone Z656 wz657 :: L) o7503 p671 h7506 0 rfl hS) (fun v ac w hR hA => ?_) rfl rfl rfl rfl rfl
            obtain ⟨rfl, hS⟩ := hR
            refine x_move hA (fun ac hA => ?_) rfl rfl rfl rfl rfl
            refine x_val hA (r_extract rfl (hA.ev rfl) rfl) (fun ac hA => ?_) rfl rfl rfl
            refine x_val hA (r_extract rfl (hA.ev rfl) rfl) (fun ac hA => ?_) rfl rfl rfl
            refine x_val hA (r_extract rfl (hA.ev rfl) rfl) (fun ac hA => ?_) rfl rfl rfl
            refine x_alloc (cs := [.int .u64 0, .int .i64 0, .int .i64 0, str [], .float .f64 0]) zr30 hA hS (fun g7507 ac w hS hA => ?_) rfl rfl rfl rfl rfl
            refine x_stb 0 sz30 hA hS rfl (fun  ac w hS hA => ?_) rfl rfl rfl rfl rfl rfl rfl rfl
            refine x_assign hA (fun ac hA => ?_) rfl rfl rfl rfl rfl
            refine x_assign hA (fun ac hA => ?_) rfl rfl rfl rfl rfl
            refine wpList_nil ?_
            refine hK7504 _ _ ?_
            refine wp_seq_k fun K7508 hK7508 => ?_
            refine wp_reg ?_
            refine x_move hA (fun ac hA => ?_) rfl rfl rfl rfl rfl
            replace hS := hS.pk 1
            obtain ⟨y7509, h7510, hF⟩ := bnd hF
            refine x_call en17 hA (F_merge_Tree_Next (L := blk g7507 30 [.int .u64 y7505.1.f0, .int .i64 y7505.1.f1, .int .i64 y7505.1.f2, str y7505.1.f3, .float .f64 y7505.1.f4] :: zone Z656 wz657 :: L) y7505.2.2.2 p671 h7510 1 rfl hS) (fun v ac w hR hA => ?_) rfl rfl rfl rfl rfl
            obtain ⟨rfl, hS⟩ := hR
            refine x_move hA (fun ac hA => ?_) rfl rfl rfl rfl rfl
            refine x_val hA (r_extract rfl (hA.ev rfl) rfl) (fun ac hA => ?_) rfl rfl rfl
            refine x_val hA (r_extract rfl (hA.ev rfl) rfl) (fun ac hA => ?_) rfl rfl rfl
            refine x_val hA (r_extract rfl (hA.ev rfl) rfl) (fun ac hA => ?_) rfl rfl rfl
            refine x_alloc (cs := [.int .u64 0, .int .i64 0, .int .i64 0, str [], .float .f64 0]) zr30 hA hS (fun g7511 ac w hS hA => ?_) rfl rfl rfl rfl rfl
            refine x_stb 0 sz30 hA hS rfl (fun  ac w hS hA => ?_) rfl rfl rfl rfl rfl rfl rfl rfl
            refine x_assign hA (fun ac hA => ?_) rfl rfl rfl rfl rfl
            refine x_assign hA (fun ac hA => ?_) rfl rfl rfl rfl rfl
            refine wpList_nil ?_
            refine hK7508 _ _ ?_
            refine wp_seq_k fun K7512 hK7512 => ?_
            refine wp_reg ?_
            refine x_move hA (fun ac hA => ?_) rfl rfl rfl rfl rfl
            refine x_val hA (r_not rfl (hA.ev rfl)) (fun ac hA => ?_) rfl rfl rfl
            refine x_move hA (fun ac hA => ?_) rfl rfl rfl rfl rfl
            refine bcase (b := !y7505.2.2.1) (fun hb7513 => ?_) fun hb7513 => ?_
            · replace hF := ift hb7513 hF
              refine x_on hb7513 hA ?_ rfl rfl rfl
              refine x_move hA (fun ac hA => ?_) rfl rfl rfl rfl rfl
              refine x_on hb7513 hA ?_ rfl rfl rfl
              refine x_val hA (r_not rfl (hA.ev rfl)) (fun ac hA => ?_) rfl rfl rfl
              refine x_pickt hb7513 hA (fun ac hA => ?_) rfl rfl rfl rfl rfl rfl
              refine x_assign hA (fun ac hA => ?_) rfl rfl rfl rfl rfl
              refine wpList_nil ?_
              refine hK7512 _ _ ?_
              refine wp_ret ?_
              replace hS := hS.drop 0
              replace hS := hS.drop 0
              replace hS := hS.drop 0
              cases hF
              refine hQ _ _ ?_
              refine lv Try.results5 hA rfl ?_
              exact ⟨Z656, wz657, rfl, h658, hS⟩
            replace hF := iff' hb7513 hF
            refine x_off hb7513 hA (fun ac hA => ?_) rfl rfl rfl rfl rfl
            refine x_off hb7513 hA (fun ac hA => ?_) rfl rfl rfl rfl rfl
            refine x_pickf hb7513 hA (fun ac hA => ?_) rfl rfl rfl rfl rfl rfl
            refine x_assign hA (fun ac hA => ?_) rfl rfl rfl rfl rfl
            refine wpList_nil ?_
            refine hK7512 _ _ ?_
            refine wp_ret ?_
            replace hS := hS.drop 0
            replace hS := hS.drop 0
            replace hS := hS.drop 0
            cases hF
            refine hQ _ _ ?_
            refine lv Try.results5 hA rfl ?_
            exact ⟨Z656, wz657, rfl, h658, hS⟩
          obtain ⟨t9025, hl9025, hF⟩ := bnd hF
          have hR9025 := hF
          have hx9025_2 : ∀ (o9025 : (Option S48)), (.inl (o9025)) = t9025 → ∀ (ac : Act) (w : World), FR 209 [] ac [(7, .pointer p671)] → SH r (optP (obj48 Z656 wz657) p671 o9025 :: zone Z656 wz657 :: L) w → Kx5238 ac w := by
            intro o9025 ht ac w hA hS
            subst ht
            replace hF : law09_MergeRuns_x1_2 o9025 = some y := hF
            unfold law09_MergeRuns_x1_2 at hF
            exact hb2 o9025 hF ac w (hA.sub _ rfl) hS
          replace hS := hS.pk 4
          replace hS := hS.pk 1
          replace hS := hS.pk 4
          replace hS := hS.pk 4
          replace hS := hS.pk 4
          refine wp_loop_fn hl9025 (fun s ac w => FR 209 [] ac [(0, .slice A0 n0 c0), (3, .slice A661 n662 c663), (7, .pointer p671), (11, .slice B689 m690 d691), (12, .slice (some ⟨g703, 0, none⟩) ((a0.length : Int).toNat) ((a0.length : Int).toNat)), (13, .int .i64 s.2.2)] ∧ SH r (optP (obj48 Z656 wz657) p671 s.1 :: own (kM Z656 wz657 k30) 25 A661 n662 c663 l660 :: own k30 30 B689 m690 d691 y687 :: own (kI .i64) 3 (some ⟨g703, 0, none⟩) ((a0.length : Int).toNat) ((a0.length : Int).toNat) s.2.1 :: zone Z656 wz657 :: L) w) ⟨hA.sub _ rfl, hS⟩ ?_
          intro N9025 s9025 o9025 hF N9025_ T9025_ ac w hLab
          obtain ⟨o8268, l8269, x8270⟩ := s9025
          replace hF : law09_MergeRuns_l1 a0 l660 y687 o8268 l8269 x8270 = some o9025 := hF
          unfold law09_MergeRuns_l1 at hF
          try dsimp only at hLab
          obtain ⟨hA, hS⟩ := hLab
          refine wp_seq_k fun K9027 hK9027 => ?_
          refine wp_seq_k fun K9028 hK9028 => ?_
          refine wp_reg ?_
          refine x_move hA (fun ac hA => ?_) rfl rfl rfl rfl rfl
          refine x_move hA (fun ac hA => ?_) rfl rfl rfl rfl rfl
          refine x_len Try.underlying25 (hS.rd 2 rfl).2.1 hA (fun ac hA => ?_) rfl rfl rfl rfl rfl
          refine x_val hA (r_ltI rfl (hA.ev rfl) (hA.ev rfl)) (fun ac hA => ?_) rfl rfl rfl
          refine wpList_nil ?_
          refine hK9028 _ _ ?_
          refine c_if hA rfl (fun hb9029 => ?_) fun hb9029 => ?_
          · replace hF := ift hb9029 hF
            refine wp_skip ?_
            refine hK9027 _ _ ?_
            refine wp_seq_k fun K9030 hK9030 => ?_
            refine wp_block_k fun Kx9031 hKx9031 => ?_
            refine wp_seq_k fun K9032 hK9032 => ?_
            refine wp_reg ?_
            refine x_move hA (fun ac hA => ?_) rfl rfl rfl rfl rfl
            obtain ⟨y9033, h9034, hF⟩ := bnd hF
            refine x_call en17 hA (F_merge_Tree_Next (L := own (kM Z656 wz657 k30) 25 A661 n662 c663 l660 :: own k30 30 B689 m690 d691 y687 :: own (kI .i64) 3 (some ⟨g703, 0, none⟩) ((a0.length : Int).toNat) ((a0.length : Int).toNat) l8269 :: zone Z656 wz657 :: L) o8268 p671 h9034 3 rfl hS) (fun v ac w hR hA => ?_) rfl rfl rfl rfl rfl
            obtain ⟨rfl, hS⟩ := hR
            refine x_move hA (fun ac hA => ?_) rfl rfl rfl rfl rfl
            refine x_val hA (r_extract rfl (hA.ev rfl) rfl) (fun ac hA => ?_) rfl rfl rfl
            refine x_val hA (r_extract rfl (hA.ev rfl) rfl) (fun ac hA => ?_) rfl rfl rfl
            refine x_val hA (r_extract rfl (hA.ev rfl) rfl) (fun ac hA => ?_) rfl rfl rfl
            refine x_alloc (cs := [.int .u64 0, .int .i64 0, .int .i64 0, str [], .float .f64 0]) zr30 hA hS (fun g9035 ac w hS hA => ?_) rfl rfl rfl rfl rfl
            refine x_stb 0 sz30 hA hS rfl (fun  ac w hS hA => ?_) rfl rfl rfl rfl rfl rfl rfl rfl
            refine x_assign hA (fun ac hA => ?_) rfl rfl rfl rfl rfl
            refine x_assign hA (fun ac hA => ?_) rfl rfl rfl rfl rfl
            refine wpList_nil ?_
            refine hK9032 _ _ ?_
            refine wp_seq_k fun K9036 hK9036 => ?_
            refine wp_seq_k fun K9037 hK9037 => ?_
            have hj4 : ∀ (b9069 : Bool), law09_MergeRuns_j4 l660 l8269 x8270 y9033 b9069 = some o9025 → ∀ (ac : Act) (w : World), FR 209 [] ac [(0, .slice A0 n0 c0), (3, .slice A661 n662 c663), (7, .pointer p671), (11, .slice B689 m690 d691), (12, .slice (some ⟨g703, 0, none⟩) ((a0.length : Int).toNat) ((a0.length : Int).toNat)), (13, .int .i64 x8270), (14, .pointer (some ⟨g9035, 0, none⟩)), (15, .int .i64 y9033.2.1), (154, .bool b9069)] → SH r (blk g9035 30 [.int .u64 y9033.1.f0, .int .i64 y9033.1.f1, .int .i64 y9033.1.f2, str y9033.1.f3, .float .f64 y9033.1.f4] :: optP (obj48 Z656 wz657) p671 y9033.2.2.2 :: own (kM Z656 wz657 k30) 25 A661 n662 c663 l660 :: own k30 30 B689 m690 d691 y687 :: own (kI .i64) 3 (some ⟨g703, 0, none⟩) ((a0.length : Int).toNat) ((a0.length : Int).toNat) l8269 :: zone Z656 wz657 :: L) w → K9037 ac w := by
              intro b9069 hF ac w hA hS
              unfold law09_MergeRuns_j4 at hF
              refine hK9037 _ _ ?_
              refine c_if hA rfl (fun hb9070 => ?_) fun hb9070 => ?_
              · replace hF := ift hb9070 hF
                refine wp_seq_k fun K9071 hK9071 => ?_
                refine wp_reg ?_
                refine x_assign hA (fun ac hA => ?_) rfl rfl rfl rfl rfl
                refine wpList_nil ?_
                refine hK9071 _ _ ?_
                refine wp_ret ?_
                replace hS := hS.drop 0
                replace hS := hS.drop 0
                replace hS := hS.drop 0
                replace hS := hS.drop 0
                replace hS := hS.drop 0
                cases hF
                have ht := T9025_ _ rfl
                subst ht
                replace hF := hR9025
                replace hF : some false = some y := hF
                cases hF
                refine hQ _ _ ?_
                refine lv Try.results5 hA rfl ?_
                exact ⟨Z656, wz657, rfl, h658, hS⟩
              replace hF := iff' hb9070 hF
              refine wp_skip ?_
              refine hK9036 _ _ ?_
              refine wp_seq_k fun K9072 hK9072 => ?_
              refine wp_seq_k fun K9408 hK9408 => ?_
              refine wp_reg ?_
              refine x_assign hA (fun ac hA => ?_) rfl rfl rfl rfl rfl
              refine wpList_nil ?_
              refine hK9408 _ _ ?_
              refine wp_block_k fun Kx9409 hKx9409 => ?_
              have hb3 : law09_MergeRuns_b3 l8269 x8270 y9033 = some o9025 → ∀ (ac : Act) (w : World), FR 209 [] ac [(0, .slice A0 n0 c0), (3, .slice A661 n662 c663), (7, .pointer p671), (11, .slice B689 m690 d691), (12, .slice (some ⟨g703, 0, none⟩) ((a0.length : Int).toNat) ((a0.length : Int).toNat)), (13, .int .i64 x8270), (15, .int .i64 y9033.2.1)] → SH r (optP (obj48 Z656 wz657) p671 y9033.2.2.2 :: own (kM Z656 wz657 k30) 25 A661 n662 c663 l660 :: own k30 30 B689 m690 d691 y687 :: own (kI .i64) 3 (some ⟨g703, 0, none⟩) ((a0.length : Int).toNat) ((a0.length : Int).toNat) l8269 :: zone Z656 wz657 :: L) w → Kx9409 ac w := by
                intro hF ac w hA hS
                unfold law09_MergeRuns_b3 at hF
                refine hKx9409 _ _ ?_
                refine hK9072 _ _ ?_
                refine wp_reg ?_
                refine x_move hA (fun ac hA => ?_) rfl rfl rfl rfl rfl
                refine x_move hA (fun ac hA => ?_) rfl rfl rfl rfl rfl
                obtain ⟨x9576, h9577, hF⟩ := bnd hF
                refine x_ia Try.underlying41 sz3 (hS.rd 3 rfl) h9577 hA (fun ac hA => ?_) rfl rfl rfl rfl rfl rfl
                obtain ⟨cs, hV, hc9578⟩ := el (hS.rd 3 rfl) h9577
                obtain rfl := hV
                refine x_ld Try.underlying3 (hc9578 0 _ rfl) hA (fun ac hA => ?_) rfl rfl rfl rfl rfl rfl
                refine x_val hA (r_add rfl (hA.ev rfl) (hA.ev rfl)) (fun ac hA => ?_) rfl rfl rfl
                refine x_ia Try.underlying41 sz3 (hS.rd 3 rfl) h9577 hA (fun ac hA => ?_) rfl rfl rfl rfl rfl rfl
                refine x_sto (z' := IntKind.i64.wrap (x9576 + 1)) (off := 0) (vs := [.int .i64 (IntKind.i64.wrap (x9576 + 1))]) 3 sz3 hA hS rfl (at_some h9577).2.2 (fun c h => by cases h; rfl) (fun  ac w hS hA => ?_) rfl rfl rfl rfl rfl rfl rfl rfl
                refine wpList_nil ?_
                refine hKx9031 _ _ ?_
                refine hK9030 _ _ ?_
                refine wp_reg ?_
                refine x_move hA (fun ac hA => ?_) rfl rfl rfl rfl rfl
                refine x_val hA (r_add rfl (hA.ev rfl) (hA.ev rfl)) (fun ac hA => ?_) rfl rfl rfl
                refine x_assign hA (fun ac hA => ?_) rfl rfl rfl rfl rfl
                refine wpList_nil ?_
                replace hS := hS.pk 4
                replace hS := hS.pk 1
                replace hS := hS.pk 4
                replace hS := hS.pk 4
                replace hS := hS.pk 4
                cases hF
                exact ⟨_, N9025_ _ rfl, hA.sub _ rfl, hS⟩
              obtain ⟨t9689, hl9689, hF⟩ := bnd hF
              have hR9689 := hF
              have hx9689_4 : (.inl ()) = t9689 → ∀ (ac : Act) (w : World), FR 209 [] ac [(0, .slice A0 n0 c0), (3, .slice A661 n662 c663), (7, .pointer p671), (11, .slice B689 m690 d691), (12, .slice (some ⟨g703, 0, none⟩) ((a0.length : Int).toNat) ((a0.length : Int).toNat)), (13, .int .i64 x8270), (15, .int .i64 y9033.2.1)] → SH r (optP (obj48 Z656 wz657) p671 y9033.2.2.2 :: own (kM Z656 wz657 k30) 25 A661 n662 c663 l660 :: own k30 30 B689 m690 d691 y687 :: own (kI .i64) 3 (some ⟨g703, 0, none⟩) ((a0.length : Int).toNat) ((a0.length : Int).toNat) l8269 :: zone Z656 wz657 :: L) w → Kx9409 ac w := by
                intro ht ac w hA hS
                subst ht
                replace hF : law09_MergeRuns_x2_4 l8269 x8270 y9033 = some o9025 := hF
                unfold law09_MergeRuns_x2_4 at hF
                exact hb3 hF ac w (hA.sub _ rfl) hS
              refine wp_loop_fn hl9689 (fun s ac w => FR 209 [] ac [(0, .slice A0 n0 c0), (3, .slice A661 n662 c663), (7, .pointer p671), (11, .slice B689 m690 d691), (12, .slice (some ⟨g703, 0, none⟩) ((a0.length : Int).toNat) ((a0.length : Int).toNat)), (13, .int .i64 x8270), (14, .pointer (some ⟨g9035, 0, none⟩)), (15, .int .i64 y9033.2.1), (17, .int .i64 s)] ∧ SH r (blk g9035 30 [.int .u64 y9033.1.f0, .int .i64 y9033.1.f1, .int .i64 y9033.1.f2, str y9033.1.f3, .float .f64 y9033.1.f4] :: optP (obj48 Z656 wz657) p671 y9033.2.2.2 :: own (kM Z656 wz657 k30) 25 A661 n662 c663 l660 :: own k30 30 B689 m690 d691 y687 :: own (kI .i64) 3 (some ⟨g703, 0, none⟩) ((a0.length : Int).toNat) ((a0.length : Int).toNat) l8269 :: zone Z656 wz657 :: L) w) ⟨hA.sub _ rfl, hS⟩ ?_
              intro N9689 s9689 o9689 hF N9689_ T9689_ ac w hLab
              obtain ⟨x9634, rfl⟩ : ∃ q, q = s9689 := ⟨_, rfl⟩
              replace hF : law09_MergeRuns_l2 l660 l8269 y9033 x9634 = some o9689 := hF
              unfold law09_MergeRuns_l2 at hF
              try dsimp only at hLab
              obtain ⟨hA, hS⟩ := hLab
              refine wp_seq_k fun K9691 hK9691 => ?_
              refine wp_seq_k fun K9692 hK9692 => ?_
              refine wp_reg ?_
              refine x_move hA (fun ac hA => ?_) rfl rfl rfl rfl rfl
              refine x_move hA (fun ac hA => ?_) rfl rfl rfl rfl rfl
              refine x_val hA (r_ltI rfl (hA.ev rfl) (hA.ev rfl)) (fun ac hA => ?_) rfl rfl rfl
              refine wpList_nil ?_
              refine hK9692 _ _ ?_
              refine c_if hA rfl (fun hb9693 => ?_) fun hb9693 => ?_
              · replace hF := ift hb9693 hF
                refine wp_skip ?_
                refine hK9691 _ _ ?_
                refine wp_seq_k fun K9694 hK9694 => ?_
                refine wp_block_k fun Kx9695 hKx9695 => ?_
                refine wp_seq_k fun K9696 hK9696 => ?_
                have hj5 : ∀ (b9719 : Bool), law09_MergeRuns_j5 x9634 b9719 = some o9689 → ∀ (ac : Act) (w : World), FR 209 [] ac [(0, .slice A0 n0 c0), (3, .slice A661 n662 c663), (7, .pointer p671), (11, .slice B689 m690 d691), (12, .slice (some ⟨g703, 0, none⟩) ((a0.length : Int).toNat) ((a0.length : Int).toNat)), (13, .int .i64 x8270), (14, .pointer (some ⟨g9035, 0, none⟩)), (15, .int .i64 y9033.2.1), (17, .int .i64 x9634), (184, .bool b9719)] → SH r (blk g9035 30 [.int .u64 y9033.1.f0, .int .i64 y9033.1.f1, .int .i64 y9033.1.f2, str y9033.1.f3, .float .f64 y9033.1.f4] :: optP (obj48 Z656 wz657) p671 y9033.2.2.2 :: own (kM Z656 wz657 k30) 25 A661 n662 c663 l660 :: own k30 30 B689 m690 d691 y687 :: own (kI .i64) 3 (some ⟨g703, 0, none⟩) ((a0.length : Int).toNat) ((a0.length : Int).toNat) l8269 :: zone Z656 wz657 :: L) w → K9696 ac w := by
                  intro b9719 hF ac w hA hS
                  unfold law09_MergeRuns_j5 at hF
                  refine hK9696 _ _ ?_
                  refine c_if hA rfl (fun hb9720 => ?_) fun hb9720 => ?_
                  · replace hF := ift hb9720 hF
                    refine wp_seq_k fun K9721 hK9721 => ?_
                    refine wp_reg ?_
                    refine x_assign hA (fun ac hA => ?_) rfl rfl rfl rfl rfl
                    refine wpList_nil ?_
                    refine hK9721 _ _ ?_
                    refine wp_ret ?_
                    replace hS := hS.drop 0
                    replace hS := hS.drop 0
                    replace hS := hS.drop 0
                    replace hS := hS.drop 0
                    replace hS := hS.drop 0
                    cases hF
                    have ht := T9689_ _ rfl
                    subst ht
                    replace hF := hR9689
                    replace hF : some (.inr (.inr false)) = some o9025 := hF
                    cases hF
                    have ht := T9025_ _ rfl
                    subst ht
                    replace hF := hR9025
                    replace hF : some false = some y := hF
                    cases hF
                    refine hQ _ _ ?_
                    refine lv Try.results5 hA rfl ?_
                    exact ⟨Z656, wz657, rfl, h658, hS⟩
                  replace hF := iff' hb9720 hF
                  refine wp_skip ?_
                  refine hKx9695 _ _ ?_
                  refine hK9694 _ _ ?_
                  refine wp_reg ?_
                  refine x_move hA (fun ac hA => ?_) rfl rfl rfl rfl rfl
                  refine x_val hA (r_add rfl (hA.ev rfl) (hA.ev rfl)) (fun ac hA => ?_) rfl rfl rfl
                  refine x_assign hA (fun ac hA => ?_) rfl rfl rfl rfl rfl
                  refine wpList_nil ?_
                  cases hF
                  exact ⟨_, N9689_ _ rfl, hA.sub _ rfl, hS⟩
                refine wp_draw [0, 0, 3, 7, 0, 0, 48, 112, 240, 511, 1023, 2047, 2047, 2047, 14335, 30719, 2047, 2047, 198655, 460799, 1046527, 2095103, 4194303, 8388607, 16777215] [22] rfl hA hS (by kernel_rfl) (by kernel_rfl) (by kernel_rfl) (by kernel_rfl) fun w hS => ?_
                obtain ⟨x9722, h9723, hF⟩ := bnd hF
                obtain ⟨cs, hV, hc9724⟩ := el (hS.rd 4 rfl) h9723
                obtain rfl := hV
                obtain ⟨x9725, h9726, hF⟩ := bnd hF
                obtain ⟨cs, hV, hc9727⟩ := el (hS.rd 2 rfl) h9726
                obtain ⟨A9728, n9729, c9730, rfl, h9731⟩ := hV
                refine bcase (b := decide (x9722 < (x9725.length : Int))) (fun hb9732 => ?_) fun hb9732 => ?_
                · replace hF := ift hb9732 hF
                  obtain ⟨cs, hV, hc9733⟩ := el (hS.rd 2 rfl) h9726
                  obtain ⟨A9734, n9735, c9736, rfl, h9737⟩ := hV
                  obtain ⟨cs, hV, hc9738⟩ := el (hS.rd 4 rfl) h9723
                  obtain rfl := hV
                  obtain ⟨x9739, h9740, hF⟩ := bnd hF
                  obtain ⟨cs, hV, hc9741⟩ := el (hS.imm 5 h9737 rfl) h9740
                  obtain rfl := hV
                  refine ⟨[(0, .slice (some ⟨g703, 0, none⟩) ((a0.length : Int).toNat) ((a0.length : Int).toNat)), (1, .int .i64 x9634), (2, .pointer (some (ea (some ⟨g703, 0, none⟩) (x9634.toNat * 1)))), (3, .int .i64 x9722), (4, .slice A661 n662 c663), (5, .int .i64 x9634), (6, .pointer (some (ea A661 (x9634.toNat * 1)))), (7, .slice A9728 n9729 c9730), (8, .int .i64 (x9725.length : Int)), (9, .bool (decide (x9722 < (x9725.length : Int)))), (10, .bool (decide (x9722 < (x9725.length : Int)))), (11, .agg #[.int .u64 y9033.1.f0, .int .i64 y9033.1.f1, .int .i64 y9033.1.f2, str y9033.1.f3, .float .f64 y9033.1.f4]), (12, .slice A661 n662 c663), (13, .int .i64 x9634), (14, .pointer (some (ea A661 (x9634.toNat * 1)))), (15, .slice A9734 n9735 c9736), (16, .slice (some ⟨g703, 0, none⟩) ((a0.length : Int).toNat) ((a0.length : Int).toNat)), (17, .int .i64 x9634), (18, .pointer (some (ea (some ⟨g703, 0, none⟩) (x9634.toNat * 1)))), (19, .int .i64 x9722), (20, .pointer (some (ea A9734 (x9722.toNat * 5)))), (21, .agg #[.int .u64 x9739.f0, .int .i64 x9739.f1, .int .i64 x9739.f2, str x9739.f3, .float .f64 x9739.f4])], ?_⟩
                  refine dEff [0, 1, 2, 3, 4, 5, 6, 7, 8, 9, 10, 11, 12, 13, 14, 15, 16, 17, 18, 19, 20, 21] [22] (by kernel_rfl) ⟨pu rfl rfl [(12, .slice (some ⟨g703, 0, none⟩) ((a0.length : Int).toNat) ((a0.length : Int).toNat))] (fun ac hA => y_move hA rfl rfl) rfl rfl, pu rfl rfl [(17, .int .i64 x9634)] (fun ac hA => y_move hA rfl rfl) rfl rfl, pu rfl rfl [(160, .slice (some ⟨g703, 0, none⟩) ((a0.length : Int).toNat) ((a0.length : Int).toNat)), (161, .int .i64 x9634)] (fun ac hA => y_ia Try.underlying41 sz3 (hS.rd 4 rfl) h9723 hA rfl rfl rfl) rfl rfl, pu rfl rfl [(162, .pointer (some (ea (some ⟨g703, 0, none⟩) (x9634.toNat * 1))))] (fun ac hA => y_ld Try.underlying3 (hc9724 0 _ rfl) hA rfl rfl rfl) rfl rfl, pu rfl rfl [(3, .slice A661 n662 c663)] (fun ac hA => y_move hA rfl rfl) rfl rfl, pu rfl rfl [(17, .int .i64 x9634)] (fun ac hA => y_move hA rfl rfl) rfl rfl, pu rfl rfl [(164, .slice A661 n662 c663), (165, .int .i64 x9634)] (fun ac hA => y_ia Try.underlying22 sz25 (hS.rd 2 rfl) h9726 hA rfl rfl rfl) rfl rfl, pu rfl rfl [(166, .pointer (some (ea A661 (x9634.toNat * 1))))] (fun ac hA => y_ld Try.underlying25 (hc9727 0 _ rfl) hA rfl rfl rfl) rfl rfl, pu rfl rfl [(167, .slice A9728 n9729 c9730)] (fun ac hA => y_len Try.underlying25 (hS.imm 5 h9731 rfl).2.1 hA rfl rfl) rfl rfl, pu rfl rfl [(163, .int .i64 x9722), (168, .int .i64 (x9725.length : Int))] (fun ac hA => r_ltI rfl (hA.ev rfl) (hA.ev rfl)) rfl rfl, pu rfl rfl [(169, .bool (decide (x9722 < (x9725.length : Int))))] (fun ac hA => y_move hA rfl rfl) rfl rfl, puOn rfl rfl rfl rfl [(14, .pointer (some ⟨g9035, 0, none⟩)), (170, .bool (decide (x9722 < (x9725.length : Int))))] rfl hb9732 (fun ac hA => y_lda (ad := ⟨g9035, 0, none⟩) (cs := [.int .u64 y9033.1.f0, .int .i64 y9033.1.f1, .int .i64 y9033.1.f2, str y9033.1.f3, .float .f64 y9033.1.f4]) Try.underlying30 sz30 (fun j u h => by rw [add_mk, Nat.zero_add]; exact hS.cell 0 rfl j u h) hA rfl rfl rfl) rfl, puOn rfl rfl rfl rfl [(3, .slice A661 n662 c663), (170, .bool (decide (x9722 < (x9725.length : Int))))] rfl hb9732 (fun ac hA => y_move hA rfl rfl) rfl, puOn rfl rfl rfl rfl [(17, .int .i64 x9634), (170, .bool (decide (x9722 < (x9725.length : Int))))] rfl hb9732 (fun ac hA => y_move hA rfl rfl) rfl, puOn rfl rfl rfl rfl [(170, .bool (decide (x9722 < (x9725.length : Int)))), (172, .slice A661 n662 c663), (173, .int .i64 x9634)] rfl hb9732 (fun ac hA => y_ia Try.underlying22 sz25 (hS.rd 2 rfl) h9726 hA rfl rfl rfl) rfl, puOn rfl rfl rfl rfl [(170, .bool (decide (x9722 < (x9725.length : Int)))), (174, .pointer (some (ea A661 (x9634.toNat * 1))))] rfl hb9732 (fun ac hA => y_ld Try.underlying25 (hc9733 0 _ rfl) hA rfl rfl rfl) rfl, puOn rfl rfl rfl rfl [(12, .slice (some ⟨g703, 0, none⟩) ((a0.length : Int).toNat) ((a0.length : Int).toNat)), (170, .bool (decide (x9722 < (x9725.length : Int))))] rfl hb9732 (fun ac hA => y_move hA rfl rfl) rfl, puOn rfl rfl rfl rfl [(17, .int .i64 x9634), (170, .bool (decide (x9722 < (x9725.length : Int))))] rfl hb9732 (fun ac hA => y_move hA rfl rfl) rfl, puOn rfl rfl rfl rfl [(170, .bool (decide (x9722 < (x9725.length : Int)))), (176, .slice (some ⟨g703, 0, none⟩) ((a0.length : Int).toNat) ((a0.length : Int).toNat)), (177, .int .i64 x9634)] rfl hb9732 (fun ac hA => y_ia Try.underlying41 sz3 (hS.rd 4 rfl) h9723 hA rfl rfl rfl) rfl, puOn rfl rfl rfl rfl [(170, .bool (decide (x9722 < (x9725.length : Int)))), (178, .pointer (some (ea (some ⟨g703, 0, none⟩) (x9634.toNat * 1))))] rfl hb9732 (fun ac hA => y_ld Try.underlying3 (hc9738 0 _ rfl) hA rfl rfl rfl) rfl, puOn rfl rfl rfl rfl [(170, .bool (decide (x9722 < (x9725.length : Int)))), (175, .slice A9734 n9735 c9736), (179, .int .i64 x9722)] rfl hb9732 (fun ac hA => y_ia Try.underlying25 sz30 (hS.imm 5 h9737 rfl) h9740 hA rfl rfl rfl) rfl, puOn rfl rfl rfl rfl [(170, .bool (decide (x9722 < (x9725.length : Int)))), (180, .pointer (some (ea A9734 (x9722.toNat * 5))))] rfl hb9732 (fun ac hA => y_lda (cs := [.int .u64 x9739.f0, .int .i64 x9739.f1, .int .i64 x9739.f2, str x9739.f3, .float .f64 x9739.f4]) Try.underlying30 sz30 (fun j u h => by rw [ea_add]; exact hc9741 _ _ h) hA rfl rfl rfl) rfl, trivial⟩ (by kernel_rfl) (by kernel_rfl) ⟨efOn rfl rfl rfl [(170, .bool (decide (x9722 < (x9725.length : Int)))), (171, .agg #[.int .u64 y9033.1.f0, .int .i64 y9033.1.f1, .int .i64 y9033.1.f2, str y9033.1.f3, .float .f64 y9033.1.f4]), (181, .agg #[.int .u64 x9739.f0, .int .i64 x9739.f1, .int .i64 x9739.f2, str x9739.f3, .float .f64 x9739.f4])] rfl hb9732 (fun ac hA K hK => ?_) rfl, trivial⟩
                  obtain ⟨y9742, h9743, hF⟩ := bnd hF
                  refine z_call en12 hA (F_r06_Before (L := blk g9035 30 [.int .u64 y9033.1.f0, .int .i64 y9033.1.f1, .int .i64 y9033.1.f2, str y9033.1.f3, .float .f64 y9033.1.f4] :: optP (obj48 Z656 wz657) p671 y9033.2.2.2 :: own (kM Z656 wz657 k30) 25 A661 n662 c663 l660 :: own k30 30 B689 m690 d691 y687 :: own (kI .i64) 3 (some ⟨g703, 0, none⟩) ((a0.length : Int).toNat) ((a0.length : Int).toNat) l8269 :: zone Z656 wz657 :: L) y9033.1 x9739 h9743 hS) (fun v w hR => ?_) rfl rfl
                  obtain ⟨rfl, hS⟩ := hR
                  refine hK _ [(23, .bool (!y9742)), (24, .bool (!y9742))] _ rfl ?_
                  refine dEnd [23, 24] (by kernel_rfl) ⟨puOn rfl rfl rfl rfl [(170, .bool (decide (x9722 < (x9725.length : Int)))), (182, .bool y9742)] rfl hb9732 (fun ac hA => r_not rfl (hA.ev rfl)) rfl, pu rfl rfl [(170, .bool (decide (x9722 < (x9725.length : Int)))), (183, .bool (!y9742))] (fun ac hA => y_pickt hb9732 hA rfl rfl rfl) rfl rfl, trivial⟩ ⟨by kernel_rfl, by kernel_rfl⟩ [(0, .slice A0 n0 c0), (3, .slice A661 n662 c663), (7, .pointer p671), (11, .slice B689 m690 d691), (12, .slice (some ⟨g703, 0, none⟩) ((a0.length : Int).toNat) ((a0.length : Int).toNat)), (13, .int .i64 x8270), (14, .pointer (some ⟨g9035, 0, none⟩)), (15, .int .i64 y9033.2.1), (17, .int .i64 x9634), (171, .agg #[.int .u64 y9033.1.f0, .int .i64 y9033.1.f1, .int .i64 y9033.1.f2, str y9033.1.f3, .float .f64 y9033.1.f4]), (172, .slice A661 n662 c663), (173, .int .i64 x9634), (175, .slice A9734 n9735 c9736), (176, .slice (some ⟨g703, 0, none⟩) ((a0.length : Int).toNat) ((a0.length : Int).toNat)), (177, .int .i64 x9634), (179, .int .i64 x9722), (181, .agg #[.int .u64 x9739.f0, .int .i64 x9739.f1, .int .i64 x9739.f2, str x9739.f3, .float .f64 x9739.f4]), (182, .bool y9742), (183, .bool (!y9742)), (184, .bool (!y9742))] rfl (fun ac hA => ?_)
                  exact hj5 (!y9742) hF ac w (hA.sub _ rfl) hS
                replace hF := iff' hb9732 hF
                refine ⟨[(0, .slice (some ⟨g703, 0, none⟩) ((a0.length : Int).toNat) ((a0.length : Int).toNat)), (1, .int .i64 x9634), (2, .pointer (some (ea (some ⟨g703, 0, none⟩) (x9634.toNat * 1)))), (3, .int .i64 x9722), (4, .slice A661 n662 c663), (5, .int .i64 x9634), (6, .pointer (some (ea A661 (x9634.toNat * 1)))), (7, .slice A9728 n9729 c9730), (8, .int .i64 (x9725.length : Int)), (9, .bool (decide (x9722 < (x9725.length : Int)))), (10, .bool (decide (x9722 < (x9725.length : Int)))), (11, undef), (12, undef), (13, undef), (14, undef), (15, undef), (16, undef), (17, undef), (18, undef), (19, undef), (20, undef), (21, undef)], ?_⟩
                refine dEff [0, 1, 2, 3, 4, 5, 6, 7, 8, 9, 10, 11, 12, 13, 14, 15, 16, 17, 18, 19, 20, 21] [22] (by kernel_rfl) ⟨pu rfl rfl [(12, .slice (some ⟨g703, 0, none⟩) ((a0.length : Int).toNat) ((a0.length : Int).toNat))] (fun ac hA => y_move hA rfl rfl) rfl rfl, pu rfl rfl [(17, .int .i64 x9634)] (fun ac hA => y_move hA rfl rfl) rfl rfl, pu rfl rfl [(160, .slice (some ⟨g703, 0, none⟩) ((a0.length : Int).toNat) ((a0.length : Int).toNat)), (161, .int .i64 x9634)] (fun ac hA => y_ia Try.underlying41 sz3 (hS.rd 4 rfl) h9723 hA rfl rfl rfl) rfl rfl, pu rfl rfl [(162, .pointer (some (ea (some ⟨g703, 0, none⟩) (x9634.toNat * 1))))] (fun ac hA => y_ld Try.underlying3 (hc9724 0 _ rfl) hA rfl rfl rfl) rfl rfl, pu rfl rfl [(3, .slice A661 n662 c663)] (fun ac hA => y_move hA rfl rfl) rfl rfl, pu rfl rfl [(17, .int .i64 x9634)] (fun ac hA => y_move hA rfl rfl) rfl rfl, pu rfl rfl [(164, .slice A661 n662 c663), (165, .int .i64 x9634)] (fun ac hA => y_ia Try.underlying22 sz25 (hS.rd 2 rfl) h9726 hA rfl rfl rfl) rfl rfl, pu rfl rfl [(166, .pointer (some (ea A661 (x9634.toNat * 1))))] (fun ac hA => y_ld Try.underlying25 (hc9727 0 _ rfl) hA rfl rfl rfl) rfl rfl, pu rfl rfl [(167, .slice A9728 n9729 c9730)] (fun ac hA => y_len Try.underlying25 (hS.imm 5 h9731 rfl).2.1 hA rfl rfl) rfl rfl, pu rfl rfl [(163, .int .i64 x9722), (168, .int .i64 (x9725.length : Int))] (fun ac hA => r_ltI rfl (hA.ev rfl) (hA.ev rfl)) rfl rfl, pu rfl rfl [(169, .bool (decide (x9722 < (x9725.length : Int))))] (fun ac hA => y_move hA rfl rfl) rfl rfl, puOff rfl rfl rfl rfl [(14, .pointer (some ⟨g9035, 0, none⟩)), (170, .bool (decide (x9722 < (x9725.length : Int))))] rfl hb9732 rfl, puOff rfl rfl rfl rfl [(3, .slice A661 n662 c663), (170, .bool (decide (x9722 < (x9725.length : Int))))] rfl hb9732 rfl, puOff rfl rfl rfl rfl [(17, .int .i64 x9634), (170, .bool (decide (x9722 < (x9725.length : Int))))] rfl hb9732 rfl, puOff rfl rfl rfl rfl [(170, .bool (decide (x9722 < (x9725.length : Int)))), (172, undef), (173, undef)] rfl hb9732 rfl, puOff rfl rfl rfl rfl [(170, .bool (decide (x9722 < (x9725.length : Int)))), (174, undef)] rfl hb9732 rfl, puOff rfl rfl rfl rfl [(12, .slice (some ⟨g703, 0, none⟩) ((a0.length : Int).toNat) ((a0.length : Int).toNat)), (170, .bool (decide (x9722 < (x9725.length : Int))))] rfl hb9732 rfl, puOff rfl rfl rfl rfl [(17, .int .i64 x9634), (170, .bool (decide (x9722 < (x9725.length : Int))))] rfl hb9732 rfl, puOff rfl rfl rfl rfl [(170, .bool (decide (x9722 < (x9725.length : Int)))), (176, undef), (177, undef)] rfl hb9732 rfl, puOff rfl rfl rfl rfl [(170, .bool (decide (x9722 < (x9725.length : Int)))), (178, undef)] rfl hb9732 rfl, puOff rfl rfl rfl rfl [(170, .bool (decide (x9722 < (x9725.length : Int)))), (175, undef), (179, undef)] rfl hb9732 rfl, puOff rfl rfl rfl rfl [(170, .bool (decide (x9722 < (x9725.length : Int)))), (180, undef)] rfl hb9732 rfl, trivial⟩ (by kernel_rfl) (by kernel_rfl) ⟨?_, trivial⟩
                refine efOff rfl rfl rfl [(170, .bool (decide (x9722 < (x9725.length : Int)))), (171, undef), (181, undef)] rfl [(23, undef), (24, .bool false)] hb9732 rfl ?_ rfl
                refine dEnd [23, 24] (by kernel_rfl) ⟨puOff rfl rfl rfl rfl [(170, .bool (decide (x9722 < (x9725.length : Int)))), (182, undef)] rfl hb9732 rfl, pu rfl rfl [(170, .bool (decide (x9722 < (x9725.length : Int)))), (183, undef)] (fun ac hA => y_pickf hb9732 hA rfl rfl rfl) rfl rfl, trivial⟩ ⟨by kernel_rfl, by kernel_rfl⟩ [(0, .slice A0 n0 c0), (3, .slice A661 n662 c663), (7, .pointer p671), (11, .slice B689 m690 d691), (12, .slice (some ⟨g703, 0, none⟩) ((a0.length : Int).toNat) ((a0.length : Int).toNat)), (13, .int .i64 x8270), (14, .pointer (some ⟨g9035, 0, none⟩)), (15, .int .i64 y9033.2.1), (17, .int .i64 x9634), (184, .bool false)] rfl (fun ac hA => ?_)
                exact hj5 false hF ac w (hA.sub _ rfl) hS
              replace hF := iff' hb9693 hF
              refine wp_exit ?_
              replace hS := hS.drop 0
              cases hF
              exact hx9689_4 (T9689_ _ rfl) ac w (hA.sub _ rfl) hS
            refine wp_draw [0, 1, 3, 7, 15, 31, 63, 127, 127, 383, 1023, 2047, 4095, 8191, 8191, 32767, 65535, 8191, 8191, 401407, 925695, 1974271, 4194303, 8388607, 16777215, 33554431, 33554431, 33554431, 234881023, 503316479, 33554431, 33554431, 3254779903, 7549747199, 17146314751, 34326183935, 68719476735, 137438953471, 274877906943, 549755813887, 1099511627775, 1099511627775, 1099511627775, 7696581394431, 16492674416639, 35184372088831, 70368744177663, 140737488355327] [36, 45] rfl hA hS (by kernel_rfl) (by kernel_rfl) (by kernel_rfl) (by kernel_rfl) fun w hS => ?_
            refine bcase (b := !y9033.2.2.1) (fun hb9744 => ?_) fun hb9744 => ?_
            · replace hF := ift hb9744 hF
              refine ⟨[(0, .bool y9033.2.2.1), (1, .bool (!y9033.2.2.1)), (2, .bool (!y9033.2.2.1)), (3, undef), (4, undef), (5, .bool true), (6, .bool true), (7, undef), (8, undef), (9, undef), (10, undef), (11, .bool true), (12, .bool true), (13, undef), (14, undef), (15, undef), (16, undef), (17, undef), (18, undef), (19, undef), (20, undef), (21, undef), (22, undef), (23, .bool true), (24, .bool true), (25, undef), (26, undef), (27, undef), (28, undef), (29, undef), (30, undef), (31, undef), (32, undef), (33, undef), (34, undef), (35, undef)], ?_⟩
              refine dEff [0, 1, 2, 3, 4, 5, 6, 7, 8, 9, 10, 11, 12, 13, 14, 15, 16, 17, 18, 19, 20, 21, 22, 23, 24, 25, 26, 27, 28, 29, 30, 31, 32, 33, 34, 35] [36] (by kernel_rfl) ⟨pu rfl rfl [(16, .bool y9033.2.2.1)] (fun ac hA => y_move hA rfl rfl) rfl rfl, pu rfl rfl [(107, .bool y9033.2.2.1)] (fun ac hA => r_not rfl (hA.ev rfl)) rfl rfl, pu rfl rfl [(108, .bool (!y9033.2.2.1))] (fun ac hA => y_move hA rfl rfl) rfl rfl, puOff rfl rfl rfl rfl [(15, .int .i64 y9033.2.1), (109, .bool (!y9033.2.2.1))] rfl hb9744 rfl, puOff rfl rfl rfl rfl [(109, .bool (!y9033.2.2.1)), (110, undef)] rfl hb9744 rfl, pu rfl rfl [(109, .bool (!y9033.2.2.1)), (111, undef)] (fun ac hA => y_pickt hb9744 hA rfl rfl rfl) rfl rfl, pu rfl rfl [(112, .bool true)] (fun ac hA => y_move hA rfl rfl) rfl rfl, puOff rfl rfl rfl rfl [(15, .int .i64 y9033.2.1), (113, .bool true)] rfl rfl rfl, puOff rfl rfl rfl rfl [(0, .slice A0 n0 c0), (113, .bool true)] rfl rfl rfl, puOff rfl rfl rfl rfl [(113, .bool true), (115, undef)] rfl rfl rfl, puOff rfl rfl rfl rfl [(113, .bool true), (114, undef), (116, undef)] rfl rfl rfl, pu rfl rfl [(113, .bool true), (117, undef)] (fun ac hA => y_pickt rfl hA rfl rfl rfl) rfl rfl, pu rfl rfl [(118, .bool true)] (fun ac hA => y_move hA rfl rfl) rfl rfl, puOff rfl rfl rfl rfl [(12, .slice (some ⟨g703, 0, none⟩) ((a0.length : Int).toNat) ((a0.length : Int).toNat)), (119, .bool true)] rfl rfl rfl, puOff rfl rfl rfl rfl [(15, .int .i64 y9033.2.1), (119, .bool true)] rfl rfl rfl, puOff rfl rfl rfl rfl [(119, .bool true), (120, undef), (121, undef)] rfl rfl rfl, puOff rfl rfl rfl rfl [(119, .bool true), (122, undef)] rfl rfl rfl, puOff rfl rfl rfl rfl [(3, .slice A661 n662 c663), (119, .bool true)] rfl rfl rfl, puOff rfl rfl rfl rfl [(15, .int .i64 y9033.2.1), (119, .bool true)] rfl rfl rfl, puOff rfl rfl rfl rfl [(119, .bool true), (124, undef), (125, undef)] rfl rfl rfl, puOff rfl rfl rfl rfl [(119, .bool true), (126, undef)] rfl rfl rfl, puOff rfl rfl rfl rfl [(119, .bool true), (127, undef)] rfl rfl rfl, puOff rfl rfl rfl rfl [(119, .bool true), (123, undef), (128, undef)] rfl rfl rfl, pu rfl rfl [(119, .bool true), (129, undef)] (fun ac hA => y_pickt rfl hA rfl rfl rfl) rfl rfl, pu rfl rfl [(130, .bool true)] (fun ac hA => y_move hA rfl rfl) rfl rfl, puOff rfl rfl rfl rfl [(14, .pointer (some ⟨g9035, 0, none⟩)), (131, .bool true)] rfl rfl rfl, puOff rfl rfl rfl rfl [(3, .slice A661 n662 c663), (131, .bool true)] rfl rfl rfl, puOff rfl rfl rfl rfl [(15, .int .i64 y9033.2.1), (131, .bool true)] rfl rfl rfl, puOff rfl rfl rfl rfl [(131, .bool true), (133, undef), (134, undef)] rfl rfl rfl, puOff rfl rfl rfl rfl [(131, .bool true), (135, undef)] rfl rfl rfl, puOff rfl rfl rfl rfl [(12, .slice (some ⟨g703, 0, none⟩) ((a0.length : Int).toNat) ((a0.length : Int).toNat)), (131, .bool true)] rfl rfl rfl, puOff rfl rfl rfl rfl [(15, .int .i64 y9033.2.1), (131, .bool true)] rfl rfl rfl, puOff rfl rfl rfl rfl [(131, .bool true), (137, undef), (138, undef)] rfl rfl rfl, puOff rfl rfl rfl rfl [(131, .bool true), (139, undef)] rfl rfl rfl, puOff rfl rfl rfl rfl [(131, .bool true), (136, undef), (140, undef)] rfl rfl rfl, puOff rfl rfl rfl rfl [(131, .bool true), (141, undef)] rfl rfl rfl, trivial⟩ (by kernel_rfl) (by kernel_rfl) ⟨?_, trivial⟩
              refine efOff rfl rfl rfl [(131, .bool true), (132, undef), (142, undef)] rfl [(37, undef), (38, .bool true), (39, .bool true), (40, undef), (41, undef), (42, undef), (43, undef), (44, undef)] rfl rfl ?_ rfl
              refine dEff [37, 38, 39, 40, 41, 42, 43, 44] [45] (by kernel_rfl) ⟨puOff rfl rfl rfl rfl [(131, .bool true), (143, undef)] rfl rfl rfl, pu rfl rfl [(131, .bool true), (144, undef)] (fun ac hA => y_pickt rfl hA rfl rfl rfl) rfl rfl, pu rfl rfl [(145, .bool true)] (fun ac hA => y_move hA rfl rfl) rfl rfl, puOff rfl rfl rfl rfl [(14, .pointer (some ⟨g9035, 0, none⟩)), (146, .bool true)] rfl rfl rfl, puOff rfl rfl rfl rfl [(11, .slice B689 m690 d691), (146, .bool true)] rfl rfl rfl, puOff rfl rfl rfl rfl [(13, .int .i64 x8270), (146, .bool true)] rfl rfl rfl, puOff rfl rfl rfl rfl [(146, .bool true), (148, undef), (149, undef)] rfl rfl rfl, puOff rfl rfl rfl rfl [(146, .bool true), (150, undef)] rfl rfl rfl, trivial⟩ (by kernel_rfl) (by kernel_rfl) ⟨?_, trivial⟩
              refine efOff rfl rfl rfl [(146, .bool true), (147, undef), (151, undef)] rfl [(46, undef), (47, .bool true)] rfl rfl ?_ rfl
              refine dEnd [46, 47] (by kernel_rfl) ⟨puOff rfl rfl rfl rfl [(146, .bool true), (152, undef)] rfl rfl rfl, pu rfl rfl [(146, .bool true), (153, undef)] (fun ac hA => y_pickt rfl hA rfl rfl rfl) rfl rfl, trivial⟩ ⟨by kernel_rfl, by kernel_rfl⟩ [(0, .slice A0 n0 c0), (3, .slice A661 n662 c663), (7, .pointer p671), (11, .slice B689 m690 d691), (12, .slice (some ⟨g703, 0, none⟩) ((a0.length : Int).toNat) ((a0.length : Int).toNat)), (13, .int .i64 x8270), (14, .pointer (some ⟨g9035, 0, none⟩)), (15, .int .i64 y9033.2.1), (154, .bool true)] rfl (fun ac hA => ?_)
              exact hj4 true hF ac w (hA.sub _ rfl) hS
            replace hF := iff' hb9744 hF
            refine bcase (b := decide (y9033.2.1 < 0)) (fun hb9745 => ?_) fun hb9745 => ?_
            · replace hF := ift hb9745 hF
              refine ⟨[(0, .bool y9033.2.2.1), (1, .bool (!y9033.2.2.1)), (2, .bool (!y9033.2.2.1)), (3, .int .i64 y9033.2.1), (4, .bool (decide (y9033.2.1 < 0))), (5, .bool (decide (y9033.2.1 < 0))), (6, .bool (decide (y9033.2.1 < 0))), (7, undef), (8, undef), (9, undef), (10, undef), (11, .bool true), (12, .bool true), (13, undef), (14, undef), (15, undef), (16, undef), (17, undef), (18, undef), (19, undef), (20, undef), (21, undef), (22, undef), (23, .bool true), (24, .bool true), (25, undef), (26, undef), (27, undef), (28, undef), (29, undef), (30, undef), (31, undef), (32, undef), (33, undef), (34, undef), (35, undef)], ?_⟩
              refine dEff [0, 1, 2, 3, 4, 5, 6, 7, 8, 9, 10, 11, 12, 13, 14, 15, 16, 17, 18, 19, 20, 21, 22, 23, 24, 25, 26, 27, 28, 29, 30, 31, 32, 33, 34, 35] [36] (by kernel_rfl) ⟨pu rfl rfl [(16, .bool y9033.2.2.1)] (fun ac hA => y_move hA rfl rfl) rfl rfl, pu rfl rfl [(107, .bool y9033.2.2.1)] (fun ac hA => r_not rfl (hA.ev rfl)) rfl rfl, pu rfl rfl [(108, .bool (!y9033.2.2.1))] (fun ac hA => y_move hA rfl rfl) rfl rfl, puOn rfl rfl rfl rfl [(15, .int .i64 y9033.2.1), (109, .bool (!y9033.2.2.1))] rfl hb9744 (fun ac hA => y_move hA rfl rfl) rfl, puOn rfl rfl rfl rfl [(109, .bool (!y9033.2.2.1)), (110, .int .i64 y9033.2.1)] rfl hb9744 (fun ac hA => r_ltI rfl (hA.ev rfl) (hA.ev rfl)) rfl, pu rfl rfl [(109, .bool (!y9033.2.2.1)), (111, .bool (decide (y9033.2.1 < 0)))] (fun ac hA => y_pickf hb9744 hA rfl rfl rfl) rfl rfl, pu rfl rfl [(112, .bool (decide (y9033.2.1 < 0)))] (fun ac hA => y_move hA rfl rfl) rfl rfl, puOff rfl rfl rfl rfl [(15, .int .i64 y9033.2.1), (113, .bool (decide (y9033.2.1 < 0)))] rfl hb9745 rfl, puOff rfl rfl rfl rfl [(0, .slice A0 n0 c0), (113, .bool (decide (y9033.2.1 < 0)))] rfl hb9745 rfl, puOff rfl rfl rfl rfl [(113, .bool (decide (y9033.2.1 < 0))), (115, undef)] rfl hb9745 rfl, puOff rfl rfl rfl rfl [(113, .bool (decide (y9033.2.1 < 0))), (114, undef), (116, undef)] rfl hb9745 rfl, pu rfl rfl [(113, .bool (decide (y9033.2.1 < 0))), (117, undef)] (fun ac hA => y_pickt hb9745 hA rfl rfl rfl) rfl rfl, pu rfl rfl [(118, .bool true)] (fun ac hA => y_move hA rfl rfl) rfl rfl, puOff rfl rfl rfl rfl [(12, .slice (some ⟨g703, 0, none⟩) ((a0.length : Int).toNat) ((a0.length : Int).toNat)), (119, .bool true)] rfl rfl rfl, puOff rfl rfl rfl rfl [(15, .int .i64 y9033.2.1), (119, .bool true)] rfl rfl rfl, puOff rfl rfl rfl rfl [(119, .bool true), (120, undef), (121, undef)] rfl rfl rfl, puOff rfl rfl rfl rfl [(119, .bool true), (122, undef)] rfl rfl rfl, puOff rfl rfl rfl rfl [(3, .slice A661 n662 c663), (119, .bool true)] rfl rfl rfl, puOff rfl rfl rfl rfl [(15, .int .i64 y9033.2.1), (119, .bool true)] rfl rfl rfl, puOff rfl rfl rfl rfl [(119, .bool true), (124, undef), (125, undef)] rfl rfl rfl, puOff rfl rfl rfl rfl [(119, .bool true), (126, undef)] rfl rfl rfl, puOff rfl rfl rfl rfl [(119, .bool true), (127, undef)] rfl rfl rfl, puOff rfl rfl rfl rfl [(119, .bool true), (123, undef), (128, undef)] rfl rfl rfl, pu rfl rfl [(119, .bool true), (129, undef)] (fun ac hA => y_pickt rfl hA rfl rfl rfl) rfl rfl, pu rfl rfl [(130, .bool true)] (fun ac hA => y_move hA rfl rfl) rfl rfl, puOff rfl rfl rfl rfl [(14, .pointer (some ⟨g9035, 0, none⟩)), (131, .bool true)] rfl rfl rfl, puOff rfl rfl rfl rfl [(3, .slice A661 n662 c663), (131, .bool true)] rfl rfl rfl, puOff rfl rfl rfl rfl [(15, .int .i64 y9033.2.1), (131, .bool true)] rfl rfl rfl, puOff rfl rfl rfl rfl [(131, .bool true), (133, undef), (134, undef)] rfl rfl rfl, puOff rfl rfl rfl rfl [(131, .bool true), (135, undef)] rfl rfl rfl, puOff rfl rfl rfl rfl [(12, .slice (some ⟨g703, 0, none⟩) ((a0.length : Int).toNat) ((a0.length : Int).toNat)), (131, .bool true)] rfl rfl rfl, puOff rfl rfl rfl rfl [(15, .int .i64 y9033.2.1), (131, .bool true)] rfl rfl rfl, puOff rfl rfl rfl rfl [(131, .bool true), (137, undef), (138, undef)] rfl rfl rfl, puOff rfl rfl rfl rfl [(131, .bool true), (139, undef)] rfl rfl rfl, puOff rfl rfl rfl rfl [(131, .bool true), (136, undef), (140, undef)] rfl rfl rfl, puOff rfl rfl rfl rfl [(131, .bool true), (141, undef)] rfl rfl rfl, trivial⟩ (by kernel_rfl) (by kernel_rfl) ⟨?_, trivial⟩
              refine efOff rfl rfl rfl [(131, .bool true), (132, undef), (142, undef)] rfl [(37, undef), (38, .bool true), (39, .bool true), (40, undef), (41, undef), (42, undef), (43, undef), (44, undef)] rfl rfl ?_ rfl
              refine dEff [37, 38, 39, 40, 41, 42, 43, 44] [45] (by kernel_rfl) ⟨puOff rfl rfl rfl rfl [(131, .bool true), (143, undef)] rfl rfl rfl, pu rfl rfl [(131, .bool true), (144, undef)] (fun ac hA => y_pickt rfl hA rfl rfl rfl) rfl rfl, pu rfl rfl [(145, .bool true)] (fun ac hA => y_move hA rfl rfl) rfl rfl, puOff rfl rfl rfl rfl [(14, .pointer (some ⟨g9035, 0, none⟩)), (146, .bool true)] rfl rfl rfl, puOff rfl rfl rfl rfl [(11, .slice B689 m690 d691), (146, .bool true)] rfl rfl rfl, puOff rfl rfl rfl rfl [(13, .int .i64 x8270), (146, .bool true)] rfl rfl rfl, puOff rfl rfl rfl rfl [(146, .bool true), (148, undef), (149, undef)] rfl rfl rfl, puOff rfl rfl rfl rfl [(146, .bool true), (150, undef)] rfl rfl rfl, trivial⟩ (by kernel_rfl) (by kernel_rfl) ⟨?_, trivial⟩
              refine efOff rfl rfl rfl [(146, .bool true), (147, undef), (151, undef)] rfl [(46, undef), (47, .bool true)] rfl rfl ?_ rfl
              refine dEnd [46, 47] (by kernel_rfl) ⟨puOff rfl rfl rfl rfl [(146, .bool true), (152, undef)] rfl rfl rfl, pu rfl rfl [(146, .bool true), (153, undef)] (fun ac hA => y_pickt rfl hA rfl rfl rfl) rfl rfl, trivial⟩ ⟨by kernel_rfl, by kernel_rfl⟩ [(0, .slice A0 n0 c0), (3, .slice A661 n662 c663), (7, .pointer p671), (11, .slice B689 m690 d691), (12, .slice (some ⟨g703, 0, none⟩) ((a0.length : Int).toNat) ((a0.length : Int).toNat)), (13, .int .i64 x8270), (14, .pointer (some ⟨g9035, 0, none⟩)), (15, .int .i64 y9033.2.1), (110, .int .i64 y9033.2.1), (111, .bool (decide (y9033.2.1 < 0))), (154, .bool true)] rfl (fun ac hA => ?_)
              exact hj4 true hF ac w (hA.sub _ rfl) hS
            replace hF := iff' hb9745 hF
            refine bcase (b := decide ((a0.length : Int) ≤ y9033.2.1)) (fun hb9746 => ?_) fun hb9746 => ?_
            · replace hF := ift hb9746 hF
              refine ⟨[(0, .bool y9033.2.2.1), (1, .bool (!y9033.2.2.1)), (2, .bool (!y9033.2.2.1)), (3, .int .i64 y9033.2.1), (4, .bool (decide (y9033.2.1 < 0))), (5, .bool (decide (y9033.2.1 < 0))), (6, .bool (decide (y9033.2.1 < 0))), (7, .int .i64 y9033.2.1), (8, .slice A0 n0 c0), (9, .int .i64 (a0.length : Int)), (10, .bool (decide ((a0.length : Int) ≤ y9033.2.1))), (11, .bool (decide ((a0.length : Int) ≤ y9033.2.1))), (12, .bool (decide ((a0.length : Int) ≤ y9033.2.1))), (13, undef), (14, undef), (15, undef), (16, undef), (17, undef), (18, undef), (19, undef), (20, undef), (21, undef), (22, undef), (23, .bool true), (24, .bool true), (25, undef), (26, undef), (27, undef), (28, undef), (29, undef), (30, undef), (31, undef), (32, undef), (33, undef), (34, undef), (35, undef)], ?_⟩
              refine dEff [0, 1, 2, 3, 4, 5, 6, 7, 8, 9, 10, 11, 12, 13, 14, 15, 16, 17, 18, 19, 20, 21, 22, 23, 24, 25, 26, 27, 28, 29, 30, 31, 32, 33, 34, 35] [36] (by kernel_rfl) ⟨pu rfl rfl [(16, .bool y9033.2.2.1)] (fun ac hA => y_move hA rfl rfl) rfl rfl, pu rfl rfl [(107, .bool y9033.2.2.1)] (fun ac hA => r_not rfl (hA.ev rfl)) rfl rfl, pu rfl rfl [(108, .bool (!y9033.2.2.1))] (fun ac hA => y_move hA rfl rfl) rfl rfl, puOn rfl rfl rfl rfl [(15, .int .i64 y9033.2.1), (109, .bool (!y9033.2.2.1))] rfl hb9744 (fun ac hA => y_move hA rfl rfl) rfl, puOn rfl rfl rfl rfl [(109, .bool (!y9033.2.2.1)), (110, .int .i64 y9033.2.1)] rfl hb9744 (fun ac hA => r_ltI rfl (hA.ev rfl) (hA.ev rfl)) rfl, pu rfl rfl [(109, .bool (!y9033.2.2.1)), (111, .bool (decide (y9033.2.1 < 0)))] (fun ac hA => y_pickf hb9744 hA rfl rfl rfl) rfl rfl, pu rfl rfl [(112, .bool (decide (y9033.2.1 < 0)))] (fun ac hA => y_move hA rfl rfl) rfl rfl, puOn rfl rfl rfl rfl [(15, .int .i64 y9033.2.1), (113, .bool (decide (y9033.2.1 < 0)))] rfl hb9745 (fun ac hA => y_move hA rfl rfl) rfl, puOn rfl rfl rfl rfl [(0, .slice A0 n0 c0), (113, .bool (decide (y9033.2.1 < 0)))] rfl hb9745 (fun ac hA => y_move hA rfl rfl) rfl, puOn rfl rfl rfl rfl [(113, .bool (decide (y9033.2.1 < 0))), (115, .slice A0 n0 c0)] rfl hb9745 (fun ac hA => y_len Try.underlying22 (hS.imm 5 h659 rfl).2.1 hA rfl rfl) rfl, puOn rfl rfl rfl rfl [(113, .bool (decide (y9033.2.1 < 0))), (114, .int .i64 y9033.2.1), (116, .int .i64 (a0.length : Int))] rfl hb9745 (fun ac hA => r_geI rfl (hA.ev rfl) (hA.ev rfl)) rfl, pu rfl rfl [(113, .bool (decide (y9033.2.1 < 0))), (117, .bool (decide ((a0.length : Int) ≤ y9033.2.1)))] (fun ac hA => y_pickf hb9745 hA rfl rfl rfl) rfl rfl, pu rfl rfl [(118, .bool (decide ((a0.length : Int) ≤ y9033.2.1)))] (fun ac hA => y_move hA rfl rfl) rfl rfl, puOff rfl rfl rfl rfl [(12, .slice (some ⟨g703, 0, none⟩) ((a0.length : Int).toNat) ((a0.length : Int).toNat)), (119, .bool (decide ((a0.length : Int) ≤ y9033.2.1)))] rfl hb9746 rfl, puOff rfl rfl rfl rfl [(15, .int .i64 y9033.2.1), (119, .bool (decide ((a0.length : Int) ≤ y9033.2.1)))] rfl hb9746 rfl, puOff rfl rfl rfl rfl [(119, .bool (decide ((a0.length : Int) ≤ y9033.2.1))), (120, undef), (121, undef)] rfl hb9746 rfl, puOff rfl rfl rfl rfl [(119, .bool (decide ((a0.length : Int) ≤ y9033.2.1))), (122, undef)] rfl hb9746 rfl, puOff rfl rfl rfl rfl [(3, .slice A661 n662 c663), (119, .bool (decide ((a0.length : Int) ≤ y9033.2.1)))] rfl hb9746 rfl, puOff rfl rfl rfl rfl [(15, .int .i64 y9033.2.1), (119, .bool (decide ((a0.length : Int) ≤ y9033.2.1)))] rfl hb9746 rfl, puOff rfl rfl rfl rfl [(119, .bool (decide ((a0.length : Int) ≤ y9033.2.1))), (124, undef), (125, undef)] rfl hb9746 rfl, puOff rfl rfl rfl rfl [(119, .bool (decide ((a0.length : Int) ≤ y9033.2.1))), (126, undef)] rfl hb9746 rfl, puOff rfl rfl rfl rfl [(119, .bool (decide ((a0.length : Int) ≤ y9033.2.1))), (127, undef)] rfl hb9746 rfl, puOff rfl rfl rfl rfl [(119, .bool (decide ((a0.length : Int) ≤ y9033.2.1))), (123, undef), (128, undef)] rfl hb9746 rfl, pu rfl rfl [(119, .bool (decide ((a0.length : Int) ≤ y9033.2.1))), (129, undef)] (fun ac hA => y_pickt hb9746 hA rfl rfl rfl) rfl rfl, pu rfl rfl [(130, .bool true)] (fun ac hA => y_move hA rfl rfl) rfl rfl, puOff rfl rfl rfl rfl [(14, .pointer (some ⟨g9035, 0, none⟩)), (131, .bool true)] rfl rfl rfl, puOff rfl rfl rfl rfl [(3, .slice A661 n662 c663), (131, .bool true)] rfl rfl rfl, puOff rfl rfl rfl rfl [(15, .int .i64 y9033.2.1), (131, .bool true)] rfl rfl rfl, puOff rfl rfl rfl rfl [(131, .bool true), (133, undef), (134, undef)] rfl rfl rfl, puOff rfl rfl rfl rfl [(131, .bool true), (135, undef)] rfl rfl rfl, puOff rfl rfl rfl rfl [(12, .slice (some ⟨g703, 0, none⟩) ((a0.length : Int).toNat) ((a0.length : Int).toNat)), (131, .bool true)] rfl rfl rfl, puOff rfl rfl rfl rfl [(15, .int .i64 y9033.2.1), (131, .bool true)] rfl rfl rfl, puOff rfl rfl rfl rfl [(131, .bool true), (137, undef), (138, undef)] rfl rfl rfl, puOff rfl rfl rfl rfl [(131, .bool true), (139, undef)] rfl rfl rfl, puOff rfl rfl rfl rfl [(131, .bool true), (136, undef), (140, undef)] rfl rfl rfl, puOff rfl rfl rfl rfl [(131, .bool true), (141, undef)] rfl rfl rfl, trivial⟩ (by kernel_rfl) (by kernel_rfl) ⟨?_, trivial⟩
              refine efOff rfl rfl rfl [(131, .bool true), (132, undef), (142, undef)] rfl [(37, undef), (38, .bool true), (39, .bool true), (40, undef), (41, undef), (42, undef), (43, undef), (44, undef)] rfl rfl ?_ rfl
              refine dEff [37, 38, 39, 40, 41, 42, 43, 44] [45] (by kernel_rfl) ⟨puOff rfl rfl rfl rfl [(131, .bool true), (143, undef)] rfl rfl rfl, pu rfl rfl [(131, .bool true), (144, undef)] (fun ac hA => y_pickt rfl hA rfl rfl rfl) rfl rfl, pu rfl rfl [(145, .bool true)] (fun ac hA => y_move hA rfl rfl) rfl rfl, puOff rfl rfl rfl rfl [(14, .pointer (some ⟨g9035, 0, none⟩)), (146, .bool true)] rfl rfl rfl, puOff rfl rfl rfl rfl [(11, .slice B689 m690 d691), (146, .bool true)] rfl rfl rfl, puOff rfl rfl rfl rfl [(13, .int .i64 x8270), (146, .bool true)] rfl rfl rfl, puOff rfl rfl rfl rfl [(146, .bool true), (148, undef), (149, undef)] rfl rfl rfl, puOff rfl rfl rfl rfl [(146, .bool true), (150, undef)] rfl rfl rfl, trivial⟩ (by kernel_rfl) (by kernel_rfl) ⟨?_, trivial⟩
              refine efOff rfl rfl rfl [(146, .bool true), (147, undef), (151, undef)] rfl [(46, undef), (47, .bool true)] rfl rfl ?_ rfl
              refine dEnd [46, 47] (by kernel_rfl) ⟨puOff rfl rfl rfl rfl [(146, .bool true), (152, undef)] rfl rfl rfl, pu rfl rfl [(146, .bool true), (153, undef)] (fun ac hA => y_pickt rfl hA rfl rfl rfl) rfl rfl, trivial⟩ ⟨by kernel_rfl, by kernel_rfl⟩ [(0, .slice A0 n0 c0), (3, .slice A661 n662 c663), (7, .pointer p671), (11, .slice B689 m690 d691), (12, .slice (some ⟨g703, 0, none⟩) ((a0.length : Int).toNat) ((a0.length : Int).toNat)), (13, .int .i64 x8270), (14, .pointer (some ⟨g9035, 0, none⟩)), (15, .int .i64 y9033.2.1), (110, .int .i64 y9033.2.1), (111, .bool (decide (y9033.2.1 < 0))), (114, .int .i64 y9033.2.1), (115, .slice A0 n0 c0), (116, .int .i64 (a0.length : Int)), (117, .bool (decide ((a0.length : Int) ≤ y9033.2.1))), (154, .bool true)] rfl (fun ac hA => ?_)
              exact hj4 true hF ac w (hA.sub _ rfl) hS
            replace hF := iff' hb9746 hF
            obtain ⟨x9747, h9748, hF⟩ := bnd hF
            obtain ⟨cs, hV, hc9749⟩ := el (hS.rd 4 rfl) h9748
            obtain rfl := hV
            obtain ⟨x9750, h9751, hF⟩ := bnd hF
            obtain ⟨cs, hV, hc9752⟩ := el (hS.rd 2 rfl) h9751
            obtain ⟨A9753, n9754, c9755, rfl, h9756⟩ := hV
            refine bcase (b := decide ((x9750.length : Int) ≤ x9747)) (fun hb9757 => ?_) fun hb9757 => ?_
            · replace hF := ift hb9757 hF
              refine ⟨[(0, .bool y9033.2.2.1), (1, .bool (!y9033.2.2.1)), (2, .bool (!y9033.2.2.1)), (3, .int .i64 y9033.2.1), (4, .bool (decide (y9033.2.1 < 0))), (5, .bool (decide (y9033.2.1 < 0))), (6, .bool (decide (y9033.2.1 < 0))), (7, .int .i64 y9033.2.1), (8, .slice A0 n0 c0), (9, .int .i64 (a0.length : Int)), (10, .bool (decide ((a0.length : Int) ≤ y9033.2.1))), (11, .bool (decide ((a0.length : Int) ≤ y9033.2.1))), (12, .bool (decide ((a0.length : Int) ≤ y9033.2.1))), (13, .slice (some ⟨g703, 0, none⟩) ((a0.length : Int).toNat) ((a0.length : Int).toNat)), (14, .int .i64 y9033.2.1), (15, .pointer (some (ea (some ⟨g703, 0, none⟩) (y9033.2.1.toNat * 1)))), (16, .int .i64 x9747), (17, .slice A661 n662 c663), (18, .int .i64 y9033.2.1), (19, .pointer (some (ea A661 (y9033.2.1.toNat * 1)))), (20, .slice A9753 n9754 c9755), (21, .int .i64 (x9750.length : Int)), (22, .bool (decide ((x9750.length : Int) ≤ x9747))), (23, .bool (decide ((x9750.length : Int) ≤ x9747))), (24, .bool (decide ((x9750.length : Int) ≤ x9747))), (25, undef), (26, undef), (27, undef), (28, undef), (29, undef), (30, undef), (31, undef), (32, undef), (33, undef), (34, undef), (35, undef)], ?_⟩
              refine dEff [0, 1, 2, 3, 4, 5, 6, 7, 8, 9, 10, 11, 12, 13, 14, 15, 16, 17, 18, 19, 20, 21, 22, 23, 24, 25, 26, 27, 28, 29, 30, 31, 32, 33, 34, 35] [36] (by kernel_rfl) ⟨pu rfl rfl [(16, .bool y9033.2.2.1)] (fun ac hA => y_move hA rfl rfl) rfl rfl, pu rfl rfl [(107, .bool y9033.2.2.1)] (fun ac hA => r_not rfl (hA.ev rfl)) rfl rfl, pu rfl rfl [(108, .bool (!y9033.2.2.1))] (fun ac hA => y_move hA rfl rfl) rfl rfl, puOn rfl rfl rfl rfl [(15, .int .i64 y9033.2.1), (109, .bool (!y9033.2.2.1))] rfl hb9744 (fun ac hA => y_move hA rfl rfl) rfl, puOn rfl rfl rfl rfl [(109, .bool (!y9033.2.2.1)), (110, .int .i64 y9033.2.1)] rfl hb9744 (fun ac hA => r_ltI rfl (hA.ev rfl) (hA.ev rfl)) rfl, pu rfl rfl [(109, .bool (!y9033.2.2.1)), (111, .bool (decide (y9033.2.1 < 0)))] (fun ac hA => y_pickf hb9744 hA rfl rfl rfl) rfl rfl, pu rfl rfl [(112, .bool (decide (y9033.2.1 < 0)))] (fun ac hA => y_move hA rfl rfl) rfl rfl, puOn rfl rfl rfl rfl [(15, .int .i64 y9033.2.1), (113, .bool (decide (y9033.2.1 < 0)))] rfl hb9745 (fun ac hA => y_move hA rfl rfl) rfl, puOn rfl rfl rfl rfl [(0, .slice A0 n0 c0), (113, .bool (decide (y9033.2.1 < 0)))] rfl hb9745 (fun ac hA => y_move hA rfl rfl) rfl, puOn rfl rfl rfl rfl [(113, .bool (decide (y9033.2.1 < 0))), (115, .slice A0 n0 c0)] rfl hb9745 (fun ac hA => y_len Try.underlying22 (hS.imm 5 h659 rfl).2.1 hA rfl rfl) rfl, puOn rfl rfl rfl rfl [(113, .bool (decide (y9033.2.1 < 0))), (114, .int .i64 y9033.2.1), (116, .int .i64 (a0.length : Int))] rfl hb9745 (fun ac hA => r_geI rfl (hA.ev rfl) (hA.ev rfl)) rfl, pu rfl rfl [(113, .bool (decide (y9033.2.1 < 0))), (117, .bool (decide ((a0.length : Int) ≤ y9033.2.1)))] (fun ac hA => y_pickf hb9745 hA rfl rfl rfl) rfl rfl, pu rfl rfl [(118, .bool (decide ((a0.length : Int) ≤ y9033.2.1)))] (fun ac hA => y_move hA rfl rfl) rfl rfl, puOn rfl rfl rfl rfl [(12, .slice (some ⟨g703, 0, none⟩) ((a0.length : Int).toNat) ((a0.length : Int).toNat)), (119, .bool (decide ((a0.length : Int) ≤ y9033.2.1)))] rfl hb9746 (fun ac hA => y_move hA rfl rfl) rfl, puOn rfl rfl rfl rfl [(15, .int .i64 y9033.2.1), (119, .bool (decide ((a0.length : Int) ≤ y9033.2.1)))] rfl hb9746 (fun ac hA => y_move hA rfl rfl) rfl, puOn rfl rfl rfl rfl [(119, .bool (decide ((a0.length : Int) ≤ y9033.2.1))), (120, .slice (some ⟨g703, 0, none⟩) ((a0.length : Int).toNat) ((a0.length : Int).toNat)), (121, .int .i64 y9033.2.1)] rfl hb9746 (fun ac hA => y_ia Try.underlying41 sz3 (hS.rd 4 rfl) h9748 hA rfl rfl rfl) rfl, puOn rfl rfl rfl rfl [(119, .bool (decide ((a0.length : Int) ≤ y9033.2.1))), (122, .pointer (some (ea (some ⟨g703, 0, none⟩) (y9033.2.1.toNat * 1))))] rfl hb9746 (fun ac hA => y_ld Try.underlying3 (hc9749 0 _ rfl) hA rfl rfl rfl) rfl, puOn rfl rfl rfl rfl [(3, .slice A661 n662 c663), (119, .bool (decide ((a0.length : Int) ≤ y9033.2.1)))] rfl hb9746 (fun ac hA => y_move hA rfl rfl) rfl, puOn rfl rfl rfl rfl [(15, .int .i64 y9033.2.1), (119, .bool (decide ((a0.length : Int) ≤ y9033.2.1)))] rfl hb9746 (fun ac hA => y_move hA rfl rfl) rfl, puOn rfl rfl rfl rfl [(119, .bool (decide ((a0.length : Int) ≤ y9033.2.1))), (124, .slice A661 n662 c663), (125, .int .i64 y9033.2.1)] rfl hb9746 (fun ac hA => y_ia Try.underlying22 sz25 (hS.rd 2 rfl) h9751 hA rfl rfl rfl) rfl, puOn rfl rfl rfl rfl [(119, .bool (decide ((a0.length : Int) ≤ y9033.2.1))), (126, .pointer (some (ea A661 (y9033.2.1.toNat * 1))))] rfl hb9746 (fun ac hA => y_ld Try.underlying25 (hc9752 0 _ rfl) hA rfl rfl rfl) rfl, puOn rfl rfl rfl rfl [(119, .bool (decide ((a0.length : Int) ≤ y9033.2.1))), (127, .slice A9753 n9754 c9755)] rfl hb9746 (fun ac hA => y_len Try.underlying25 (hS.imm 5 h9756 rfl).2.1 hA rfl rfl) rfl, puOn rfl rfl rfl rfl [(119, .bool (decide ((a0.length : Int) ≤ y9033.2.1))), (123, .int .i64 x9747), (128, .int .i64 (x9750.length : Int))] rfl hb9746 (fun ac hA => r_geI rfl (hA.ev rfl) (hA.ev rfl)) rfl, pu rfl rfl [(119, .bool (decide ((a0.length : Int) ≤ y9033.2.1))), (129, .bool (decide ((x9750.length : Int) ≤ x9747)))] (fun ac hA => y_pickf hb9746 hA rfl rfl rfl) rfl rfl, pu rfl rfl [(130, .bool (decide ((x9750.length : Int) ≤ x9747)))] (fun ac hA => y_move hA rfl rfl) rfl rfl, puOff rfl rfl rfl rfl [(14, .pointer (some ⟨g9035, 0, none⟩)), (131, .bool (decide ((x9750.length : Int) ≤ x9747)))] rfl hb9757 rfl, puOff rfl rfl rfl rfl [(3, .slice A661 n662 c663), (131, .bool (decide ((x9750.length : Int) ≤ x9747)))] rfl hb9757 rfl, puOff rfl rfl rfl rfl [(15, .int .i64 y9033.2.1), (131, .bool (decide ((x9750.length : Int) ≤ x9747)))] rfl hb9757 rfl, puOff rfl rfl rfl rfl [(131, .bool (decide ((x9750.length : Int) ≤ x9747))), (133, undef), (134, undef)] rfl hb9757 rfl, puOff rfl rfl rfl rfl [(131, .bool (decide ((x9750.length : Int) ≤ x9747))), (135, undef)] rfl hb9757 rfl, puOff rfl rfl rfl rfl [(12, .slice (some ⟨g703, 0, none⟩) ((a0.length : Int).toNat) ((a0.length : Int).toNat)), (131, .bool (decide ((x9750.length : Int) ≤ x9747)))] rfl hb9757 rfl, puOff rfl rfl rfl rfl [(15, .int .i64 y9033.2.1), (131, .bool (decide ((x9750.length : Int) ≤ x9747)))] rfl hb9757 rfl, puOff rfl rfl rfl rfl [(131, .bool (decide ((x9750.length : Int) ≤ x9747))), (137, undef), (138, undef)] rfl hb9757 rfl, puOff rfl rfl rfl rfl [(131, .bool (decide ((x9750.length : Int) ≤ x9747))), (139, undef)] rfl hb9757 rfl, puOff rfl rfl rfl rfl [(131, .bool (decide ((x9750.length : Int) ≤ x9747))), (136, undef), (140, undef)] rfl hb9757 rfl, puOff rfl rfl rfl rfl [(131, .bool (decide ((x9750.length : Int) ≤ x9747))), (141, undef)] rfl hb9757 rfl, trivial⟩ (by kernel_rfl) (by kernel_rfl) ⟨?_, trivial⟩
              refine efOff rfl rfl rfl [(131, .bool (decide ((x9750.length : Int) ≤ x9747))), (132, undef), (142, undef)] rfl [(37, undef), (38, .bool true), (39, .bool true), (40, undef), (41, undef), (42, undef), (43, undef), (44, undef)] hb9757 rfl ?_ rfl
              refine dEff [37, 38, 39, 40, 41, 42, 43, 44] [45] (by kernel_rfl) ⟨puOff rfl rfl rfl rfl [(131, .bool (decide ((x9750.length : Int) ≤ x9747))), (143, undef)] rfl hb9757 rfl, pu rfl rfl [(131, .bool (decide ((x9750.length : Int) ≤ x9747))), (144, undef)] (fun ac hA => y_pickt hb9757 hA rfl rfl rfl) rfl rfl, pu rfl rfl [(145, .bool true)] (fun ac hA => y_move hA rfl rfl) rfl rfl, puOff rfl rfl rfl rfl [(14, .pointer (some ⟨g9035, 0, none⟩)), (146, .bool true)] rfl rfl rfl, puOff rfl rfl rfl rfl [(11, .slice B689 m690 d691), (146, .bool true)] rfl rfl rfl, puOff rfl rfl rfl rfl [(13, .int .i64 x8270), (146, .bool true)] rfl rfl rfl, puOff rfl rfl rfl rfl [(146, .bool true), (148, undef), (149, undef)] rfl rfl rfl, puOff rfl rfl rfl rfl [(146, .bool true), (150, undef)] rfl rfl rfl, trivial⟩ (by kernel_rfl) (by kernel_rfl) ⟨?_, trivial⟩
              refine efOff rfl rfl rfl [(146, .bool true), (147, undef), (151, undef)] rfl [(46, undef), (47, .bool true)] rfl rfl ?_ rfl
              refine dEnd [46, 47] (by kernel_rfl) ⟨puOff rfl rfl rfl rfl [(146, .bool true), (152, undef)] rfl rfl rfl, pu rfl rfl [(146, .bool true), (153, undef)] (fun ac hA => y_pickt rfl hA rfl rfl rfl) rfl rfl, trivial⟩ ⟨by kernel_rfl, by kernel_rfl⟩ [(0, .slice A0 n0 c0), (3, .slice A661 n662 c663), (7, .pointer p671), (11, .slice B689 m690 d691), (12, .slice (some ⟨g703, 0, none⟩) ((a0.length : Int).toNat) ((a0.length : Int).toNat)), (13, .int .i64 x8270), (14, .pointer (some ⟨g9035, 0, none⟩)), (15, .int .i64 y9033.2.1), (110, .int .i64 y9033.2.1), (111, .bool (decide (y9033.2.1 < 0))), (114, .int .i64 y9033.2.1), (115, .slice A0 n0 c0), (116, .int .i64 (a0.length : Int)), (117, .bool (decide ((a0.length : Int) ≤ y9033.2.1))), (120, .slice (some ⟨g703, 0, none⟩) ((a0.length : Int).toNat) ((a0.length : Int).toNat)), (121, .int .i64 y9033.2.1), (123, .int .i64 x9747), (124, .slice A661 n662 c663), (125, .int .i64 y9033.2.1), (127, .slice A9753 n9754 c9755), (128, .int .i64 (x9750.length : Int)), (129, .bool (decide ((x9750.length : Int) ≤ x9747))), (154, .bool true)] rfl (fun ac hA => ?_)
              exact hj4 true hF ac w (hA.sub _ rfl) hS
            replace hF := iff' hb9757 hF
            obtain ⟨cs, hV, hc9758⟩ := el (hS.rd 2 rfl) h9751
            obtain ⟨A9759, n9760, c9761, rfl, h9762⟩ := hV
            obtain ⟨cs, hV, hc9763⟩ := el (hS.rd 4 rfl) h9748
            obtain rfl := hV
            obtain ⟨x9764, h9765, hF⟩ := bnd hF
            obtain ⟨cs, hV, hc9766⟩ := el (hS.imm 5 h9762 rfl) h9765
            obtain rfl := hV
            refine ⟨[(0, .bool y9033.2.2.1), (1, .bool (!y9033.2.2.1)), (2, .bool (!y9033.2.2.1)), (3, .int .i64 y9033.2.1), (4, .bool (decide (y9033.2.1 < 0))), (5, .bool (decide (y9033.2.1 < 0))), (6, .bool (decide (y9033.2.1 < 0))), (7, .int .i64 y9033.2.1), (8, .slice A0 n0 c0), (9, .int .i64 (a0.length : Int)), (10, .bool (decide ((a0.length : Int) ≤ y9033.2.1))), (11, .bool (decide ((a0.length : Int) ≤ y9033.2.1))), (12, .bool (decide ((a0.length : Int) ≤ y9033.2.1))), (13, .slice (some ⟨g703, 0, none⟩) ((a0.length : Int).toNat) ((a0.length : Int).toNat)), (14, .int .i64 y9033.2.1), (15, .pointer (some (ea (some ⟨g703, 0, none⟩) (y9033.2.1.toNat * 1)))), (16, .int .i64 x9747), (17, .slice A661 n662 c663), (18, .int .i64 y9033.2.1), (19, .pointer (some (ea A661 (y9033.2.1.toNat * 1)))), (20, .slice A9753 n9754 c9755), (21, .int .i64 (x9750.length : Int)), (22, .bool (decide ((x9750.length : Int) ≤ x9747))), (23, .bool (decide ((x9750.length : Int) ≤ x9747))), (24, .bool (decide ((x9750.length : Int) ≤ x9747))), (25, .agg #[.int .u64 y9033.1.f0, .int .i64 y9033.1.f1, .int .i64 y9033.1.f2, str y9033.1.f3, .float .f64 y9033.1.f4]), (26, .slice A661 n662 c663), (27, .int .i64 y9033.2.1), (28, .pointer (some (ea A661 (y9033.2.1.toNat * 1)))), (29, .slice A9759 n9760 c9761), (30, .slice (some ⟨g703, 0, none⟩) ((a0.length : Int).toNat) ((a0.length : Int).toNat)), (31, .int .i64 y9033.2.1), (32, .pointer (some (ea (some ⟨g703, 0, none⟩) (y9033.2.1.toNat * 1)))), (33, .int .i64 x9747), (34, .pointer (some (ea A9759 (x9747.toNat * 5)))), (35, .agg #[.int .u64 x9764.f0, .int .i64 x9764.f1, .int .i64 x9764.f2, str x9764.f3, .float .f64 x9764.f4])], ?_⟩
            refine dEff [0, 1, 2, 3, 4, 5, 6, 7, 8, 9, 10, 11, 12, 13, 14, 15, 16, 17, 18, 19, 20, 21, 22, 23, 24, 25, 26, 27, 28, 29, 30, 31, 32, 33, 34, 35] [36] (by kernel_rfl) ⟨pu rfl rfl [(16, .bool y9033.2.2.1)] (fun ac hA => y_move hA rfl rfl) rfl rfl, pu rfl rfl [(107, .bool y9033.2.2.1)] (fun ac hA => r_not rfl (hA.ev rfl)) rfl rfl, pu rfl rfl [(108, .bool (!y9033.2.2.1))] (fun ac hA => y_move hA rfl rfl) rfl rfl, puOn rfl rfl rfl rfl [(15, .int .i64 y9033.2.1), (109, .bool (!y9033.2.2.1))] rfl hb9744 (fun ac hA => y_move hA rfl rfl) rfl, puOn rfl rfl rfl rfl [(109, .bool (!y9033.2.2.1)), (110, .int .i64 y9033.2.1)] rfl hb9744 (fun ac hA => r_ltI rfl (hA.ev rfl) (hA.ev rfl)) rfl, pu rfl rfl [(109, .bool (!y9033.2.2.1)), (111, .bool (decide (y9033.2.1 < 0)))] (fun ac hA => y_pickf hb9744 hA rfl rfl rfl) rfl rfl, pu rfl rfl [(112, .bool (decide (y9033.2.1 < 0)))] (fun ac hA => y_move hA rfl rfl) rfl rfl, puOn rfl rfl rfl rfl [(15, .int .i64 y9033.2.1), (113, .bool (decide (y9033.2.1 < 0)))] rfl hb9745 (fun ac hA => y_move hA rfl rfl) rfl, puOn rfl rfl rfl rfl [(0, .slice A0 n0 c0), (113, .bool (decide (y9033.2.1 < 0)))] rfl hb9745 (fun ac hA => y_move hA rfl rfl) rfl, puOn rfl rfl rfl rfl [(113, .bool (decide (y9033.2.1 < 0))), (115, .slice A0 n0 c0)] rfl hb9745 (fun ac hA => y_len Try.underlying22 (hS.imm 5 h659 rfl).2.1 hA rfl rfl) rfl, puOn rfl rfl rfl rfl [(113, .bool (decide (y9033.2.1 < 0))), (114, .int .i64 y9033.2.1), (116, .int .i64 (a0.length : Int))] rfl hb9745 (fun ac hA => r_geI rfl (hA.ev rfl) (hA.ev rfl)) rfl, pu rfl rfl [(113, .bool (decide (y9033.2.1 < 0))), (117, .bool (decide ((a0.length : Int) ≤ y9033.2.1)))] (fun ac hA => y_pickf hb9745 hA rfl rfl rfl) rfl rfl, pu rfl rfl [(118, .bool (decide ((a0.length : Int) ≤ y9033.2.1)))] (fun ac hA => y_move hA rfl rfl) rfl rfl, puOn rfl rfl rfl rfl [(12, .slice (some ⟨g703, 0, none⟩) ((a0.length : Int).toNat) ((a0.length : Int).toNat)), (119, .bool (decide ((a0.length : Int) ≤ y9033.2.1)))] rfl hb9746 (fun ac hA => y_move hA rfl rfl) rfl, puOn rfl rfl rfl rfl [(15, .int .i64 y9033.2.1), (119, .bool (decide ((a0.length : Int) ≤ y9033.2.1)))] rfl hb9746 (fun ac hA => y_move hA rfl rfl) rfl, puOn rfl rfl rfl rfl [(119, .bool (decide ((a0.length : Int) ≤ y9033.2.1))), (120, .slice (some ⟨g703, 0, none⟩) ((a0.length : Int).toNat) ((a0.length : Int).toNat)), (121, .int .i64 y9033.2.1)] rfl hb9746 (fun ac hA => y_ia Try.underlying41 sz3 (hS.rd 4 rfl) h9748 hA rfl rfl rfl) rfl, puOn rfl rfl rfl rfl [(119, .bool (decide ((a0.length : Int) ≤ y9033.2.1))), (122, .pointer (some (ea (some ⟨g703, 0, none⟩) (y9033.2.1.toNat * 1))))] rfl hb9746 (fun ac hA => y_ld Try.underlying3 (hc9749 0 _ rfl) hA rfl rfl rfl) rfl, puOn rfl rfl rfl rfl [(3, .slice A661 n662 c663), (119, .bool (decide ((a0.length : Int) ≤ y9033.2.1)))] rfl hb9746 (fun ac hA => y_move hA rfl rfl) rfl, puOn rfl rfl rfl rfl [(15, .int .i64 y9033.2.1), (119, .bool (decide ((a0.length : Int) ≤ y9033.2.1)))] rfl hb9746 (fun ac hA => y_move hA rfl rfl) rfl, puOn rfl rfl rfl rfl [(119, .bool (decide ((a0.length : Int) ≤ y9033.2.1))), (124, .slice A661 n662 c663), (125, .int .i64 y9033.2.1)] rfl hb9746 (fun ac hA => y_ia Try.underlying22 sz25 (hS.rd 2 rfl) h9751 hA rfl rfl rfl) rfl, puOn rfl rfl rfl rfl [(119, .bool (decide ((a0.length : Int) ≤ y9033.2.1))), (126, .pointer (some (ea A661 (y9033.2.1.toNat * 1))))] rfl hb9746 (fun ac hA => y_ld Try.underlying25 (hc9752 0 _ rfl) hA rfl rfl rfl) rfl, puOn rfl rfl rfl rfl [(119, .bool (decide ((a0.length : Int) ≤ y9033.2.1))), (127, .slice A9753 n9754 c9755)] rfl hb9746 (fun ac hA => y_len Try.underlying25 (hS.imm 5 h9756 rfl).2.1 hA rfl rfl) rfl, puOn rfl rfl rfl rfl [(119, .bool (decide ((a0.length : Int) ≤ y9033.2.1))), (123, .int .i64 x9747), (128, .int .i64 (x9750.length : Int))] rfl hb9746 (fun ac hA => r_geI rfl (hA.ev rfl) (hA.ev rfl)) rfl, pu rfl rfl [(119, .bool (decide ((a0.length : Int) ≤ y9033.2.1))), (129, .bool (decide ((x9750.length : Int) ≤ x9747)))] (fun ac hA => y_pickf hb9746 hA rfl rfl rfl) rfl rfl, pu rfl rfl [(130, .bool (decide ((x9750.length : Int) ≤ x9747)))] (fun ac hA => y_move hA rfl rfl) rfl rfl, puOn rfl rfl rfl rfl [(14, .pointer (some ⟨g9035, 0, none⟩)), (131, .bool (decide ((x9750.length : Int) ≤ x9747)))] rfl hb9757 (fun ac hA => y_lda (ad := ⟨g9035, 0, none⟩) (cs := [.int .u64 y9033.1.f0, .int .i64 y9033.1.f1, .int .i64 y9033.1.f2, str y9033.1.f3, .float .f64 y9033.1.f4]) Try.underlying30 sz30 (fun j u h => by rw [add_mk, Nat.zero_add]; exact hS.cell 0 rfl j u h) hA rfl rfl rfl) rfl, puOn rfl rfl rfl rfl [(3, .slice A661 n662 c663), (131, .bool (decide ((x9750.length : Int) ≤ x9747)))] rfl hb9757 (fun ac hA => y_move hA rfl rfl) rfl, puOn rfl rfl rfl rfl [(15, .int .i64 y9033.2.1), (131, .bool (decide ((x9750.length : Int) ≤ x9747)))] rfl hb9757 (fun ac hA => y_move hA rfl rfl) rfl, puOn rfl rfl rfl rfl [(131, .bool (decide ((x9750.length : Int) ≤ x9747))), (133, .slice A661 n662 c663), (134, .int .i64 y9033.2.1)] rfl hb9757 (fun ac hA => y_ia Try.underlying22 sz25 (hS.rd 2 rfl) h9751 hA rfl rfl rfl) rfl, puOn rfl rfl rfl rfl [(131, .bool (decide ((x9750.length : Int) ≤ x9747))), (135, .pointer (some (ea A661 (y9033.2.1.toNat * 1))))] rfl hb9757 (fun ac hA => y_ld Try.underlying25 (hc9758 0 _ rfl) hA rfl rfl rfl) rfl, puOn rfl rfl rfl rfl [(12, .slice (some ⟨g703, 0, none⟩) ((a0.length : Int).toNat) ((a0.length : Int).toNat)), (131, .bool (decide ((x9750.length : Int) ≤ x9747)))] rfl hb9757 (fun ac hA => y_move hA rfl rfl) rfl, puOn rfl rfl rfl rfl [(15, .int .i64 y9033.2.1), (131, .bool (decide ((x9750.length : Int) ≤ x9747)))] rfl hb9757 (fun ac hA => y_move hA rfl rfl) rfl, puOn rfl rfl rfl rfl [(131, .bool (decide ((x9750.length : Int) ≤ x9747))), (137, .slice (some ⟨g703, 0, none⟩) ((a0.length : Int).toNat) ((a0.length : Int).toNat)), (138, .int .i64 y9033.2.1)] rfl hb9757 (fun ac hA => y_ia Try.underlying41 sz3 (hS.rd 4 rfl) h9748 hA rfl rfl rfl) rfl, puOn rfl rfl rfl rfl [(131, .bool (decide ((x9750.length : Int) ≤ x9747))), (139, .pointer (some (ea (some ⟨g703, 0, none⟩) (y9033.2.1.toNat * 1))))] rfl hb9757 (fun ac hA => y_ld Try.underlying3 (hc9763 0 _ rfl) hA rfl rfl rfl) rfl, puOn rfl rfl rfl rfl [(131, .bool (decide ((x9750.length : Int) ≤ x9747))), (136, .slice A9759 n9760 c9761), (140, .int .i64 x9747)] rfl hb9757 (fun ac hA => y_ia Try.underlying25 sz30 (hS.imm 5 h9762 rfl) h9765 hA rfl rfl rfl) rfl, puOn rfl rfl rfl rfl [(131, .bool (decide ((x9750.length : Int) ≤ x9747))), (141, .pointer (some (ea A9759 (x9747.toNat * 5))))] rfl hb9757 (fun ac hA => y_lda (cs := [.int .u64 x9764.f0, .int .i64 x9764.f1, .int .i64 x9764.f2, str x9764.f3, .float .f64 x9764.f4]) Try.underlying30 sz30 (fun j u h => by rw [ea_add]; exact hc9766 _ _ h) hA rfl rfl rfl) rfl, trivial⟩ (by kernel_rfl) (by kernel_rfl) ⟨efOn rfl rfl rfl [(131, .bool (decide ((x9750.length : Int) ≤ x9747))), (132, .agg #[.int .u64 y9033.1.f0, .int .i64 y9033.1.f1, .int .i64 y9033.1.f2, str y9033.1.f3, .float .f64 y9033.1.f4]), (142, .agg #[.int .u64 x9764.f0, .int .i64 x9764.f1, .int .i64 x9764.f2, str x9764.f3, .float .f64 x9764.f4])] rfl hb9757 (fun ac hA K hK => ?_) rfl, trivial⟩
            obtain ⟨y9767, h9768, hF⟩ := bnd hF
            refine z_call en18 hA (F_r06_Same (L := blk g9035 30 [.int .u64 y9033.1.f0, .int .i64 y9033.1.f1, .int .i64 y9033.1.f2, str y9033.1.f3, .float .f64 y9033.1.f4] :: optP (obj48 Z656 wz657) p671 y9033.2.2.2 :: own (kM Z656 wz657 k30) 25 A661 n662 c663 l660 :: own k30 30 B689 m690 d691 y687 :: own (kI .i64) 3 (some ⟨g703, 0, none⟩) ((a0.length : Int).toNat) ((a0.length : Int).toNat) l8269 :: zone Z656 wz657 :: L) y9033.1 x9764 h9768 hS) (fun v w hR => ?_) rfl rfl
            obtain ⟨rfl, hS⟩ := hR
            refine bcase (b := !y9767) (fun hb9769 => ?_) fun hb9769 => ?_
            · replace hF := ift hb9769 hF
              refine hK _ [(37, .bool (!y9767)), (38, .bool (!y9767)), (39, .bool (!y9767)), (40, undef), (41, undef), (42, undef), (43, undef), (44, undef)] _ rfl ?_
              refine dEff [37, 38, 39, 40, 41, 42, 43, 44] [45] (by kernel_rfl) ⟨puOn rfl rfl rfl rfl [(131, .bool (decide ((x9750.length : Int) ≤ x9747))), (143, .bool y9767)] rfl hb9757 (fun ac hA => r_not rfl (hA.ev rfl)) rfl, pu rfl rfl [(131, .bool (decide ((x9750.length : Int) ≤ x9747))), (144, .bool (!y9767))] (fun ac hA => y_pickf hb9757 hA rfl rfl rfl) rfl rfl, pu rfl rfl [(145, .bool (!y9767))] (fun ac hA => y_move hA rfl rfl) rfl rfl, puOff rfl rfl rfl rfl [(14, .pointer (some ⟨g9035, 0, none⟩)), (146, .bool (!y9767))] rfl hb9769 rfl, puOff rfl rfl rfl rfl [(11, .slice B689 m690 d691), (146, .bool (!y9767))] rfl hb9769 rfl, puOff rfl rfl rfl rfl [(13, .int .i64 x8270), (146, .bool (!y9767))] rfl hb9769 rfl, puOff rfl rfl rfl rfl [(146, .bool (!y9767)), (148, undef), (149, undef)] rfl hb9769 rfl, puOff rfl rfl rfl rfl [(146, .bool (!y9767)), (150, undef)] rfl hb9769 rfl, trivial⟩ (by kernel_rfl) (by kernel_rfl) ⟨?_, trivial⟩
              refine efOff rfl rfl rfl [(146, .bool (!y9767)), (147, undef), (151, undef)] rfl [(46, undef), (47, .bool true)] hb9769 rfl ?_ rfl
              refine dEnd [46, 47] (by kernel_rfl) ⟨puOff rfl rfl rfl rfl [(146, .bool (!y9767)), (152, undef)] rfl hb9769 rfl, pu rfl rfl [(146, .bool (!y9767)), (153, undef)] (fun ac hA => y_pickt hb9769 hA rfl rfl rfl) rfl rfl, trivial⟩ ⟨by kernel_rfl, by kernel_rfl⟩ [(0, .slice A0 n0 c0), (3, .slice A661 n662 c663), (7, .pointer p671), (11, .slice B689 m690 d691), (12, .slice (some ⟨g703, 0, none⟩) ((a0.length : Int).toNat) ((a0.length : Int).toNat)), (13, .int .i64 x8270), (14, .pointer (some ⟨g9035, 0, none⟩)), (15, .int .i64 y9033.2.1), (110, .int .i64 y9033.2.1), (111, .bool (decide (y9033.2.1 < 0))), (114, .int .i64 y9033.2.1), (115, .slice A0 n0 c0), (116, .int .i64 (a0.length : Int)), (117, .bool (decide ((a0.length : Int) ≤ y9033.2.1))), (120, .slice (some ⟨g703, 0, none⟩) ((a0.length : Int).toNat) ((a0.length : Int).toNat)), (121, .int .i64 y9033.2.1), (123, .int .i64 x9747), (124, .slice A661 n662 c663), (125, .int .i64 y9033.2.1), (127, .slice A9753 n9754 c9755), (128, .int .i64 (x9750.length : Int)), (129, .bool (decide ((x9750.length : Int) ≤ x9747))), (132, .agg #[.int .u64 y9033.1.f0, .int .i64 y9033.1.f1, .int .i64 y9033.1.f2, str y9033.1.f3, .float .f64 y9033.1.f4]), (133, .slice A661 n662 c663), (134, .int .i64 y9033.2.1), (136, .slice A9759 n9760 c9761), (137, .slice (some ⟨g703, 0, none⟩) ((a0.length : Int).toNat) ((a0.length : Int).toNat)), (138, .int .i64 y9033.2.1), (140, .int .i64 x9747), (142, .agg #[.int .u64 x9764.f0, .int .i64 x9764.f1, .int .i64 x9764.f2, str x9764.f3, .float .f64 x9764.f4]), (143, .bool y9767), (144, .bool (!y9767)), (154, .bool true)] rfl (fun ac hA => ?_)
              exact hj4 true hF ac w (hA.sub _ rfl) hS
            replace hF := iff' hb9769 hF
            obtain ⟨x9770, h9771, hF⟩ := bnd hF
            obtain ⟨cs, hV, hc9772⟩ := el (hS.rd 3 rfl) h9771
            obtain rfl := hV
            refine hK _ [(37, .bool (!y9767)), (38, .bool (!y9767)), (39, .bool (!y9767)), (40, .agg #[.int .u64 y9033.1.f0, .int .i64 y9033.1.f1, .int .i64 y9033.1.f2, str y9033.1.f3, .float .f64 y9033.1.f4]), (41, .slice B689 m690 d691), (42, .int .i64 x8270), (43, .pointer (some (ea B689 (x8270.toNat * 5)))), (44, .agg #[.int .u64 x9770.f0, .int .i64 x9770.f1, .int .i64 x9770.f2, str x9770.f3, .float .f64 x9770.f4])] _ rfl ?_
            refine dEff [37, 38, 39, 40, 41, 42, 43, 44] [45] (by kernel_rfl) ⟨puOn rfl rfl rfl rfl [(131, .bool (decide ((x9750.length : Int) ≤ x9747))), (143, .bool y9767)] rfl hb9757 (fun ac hA => r_not rfl (hA.ev rfl)) rfl, pu rfl rfl [(131, .bool (decide ((x9750.length : Int) ≤ x9747))), (144, .bool (!y9767))] (fun ac hA => y_pickf hb9757 hA rfl rfl rfl) rfl rfl, pu rfl rfl [(145, .bool (!y9767))] (fun ac hA => y_move hA rfl rfl) rfl rfl, puOn rfl rfl rfl rfl [(14, .pointer (some ⟨g9035, 0, none⟩)), (146, .bool (!y9767))] rfl hb9769 (fun ac hA => y_lda (ad := ⟨g9035, 0, none⟩) (cs := [.int .u64 y9033.1.f0, .int .i64 y9033.1.f1, .int .i64 y9033.1.f2, str y9033.1.f3, .float .f64 y9033.1.f4]) Try.underlying30 sz30 (fun j u h => by rw [add_mk, Nat.zero_add]; exact hS.cell 0 rfl j u h) hA rfl rfl rfl) rfl, puOn rfl rfl rfl rfl [(11, .slice B689 m690 d691), (146, .bool (!y9767))] rfl hb9769 (fun ac hA => y_move hA rfl rfl) rfl, puOn rfl rfl rfl rfl [(13, .int .i64 x8270), (146, .bool (!y9767))] rfl hb9769 (fun ac hA => y_move hA rfl rfl) rfl, puOn rfl rfl rfl rfl [(146, .bool (!y9767)), (148, .slice B689 m690 d691), (149, .int .i64 x8270)] rfl hb9769 (fun ac hA => y_ia Try.underlying25 sz30 (hS.rd 3 rfl) h9771 hA rfl rfl rfl) rfl, puOn rfl rfl rfl rfl [(146, .bool (!y9767)), (150, .pointer (some (ea B689 (x8270.toNat * 5))))] rfl hb9769 (fun ac hA => y_lda (cs := [.int .u64 x9770.f0, .int .i64 x9770.f1, .int .i64 x9770.f2, str x9770.f3, .float .f64 x9770.f4]) Try.underlying30 sz30 (fun j u h => by rw [ea_add]; exact hc9772 _ _ h) hA rfl rfl rfl) rfl, trivial⟩ (by kernel_rfl) (by kernel_rfl) ⟨efOn rfl rfl rfl [(146, .bool (!y9767)), (147, .agg #[.int .u64 y9033.1.f0, .int .i64 y9033.1.f1, .int .i64 y9033.1.f2, str y9033.1.f3, .float .f64 y9033.1.f4]), (151, .agg #[.int .u64 x9770.f0, .int .i64 x9770.f1, .int .i64 x9770.f2, str x9770.f3, .float .f64 x9770.f4])] rfl hb9769 (fun ac hA K hK => ?_) rfl, trivial⟩
            obtain ⟨y9773, h9774, hF⟩ := bnd hF
            refine z_call en18 hA (F_r06_Same (L := blk g9035 30 [.int .u64 y9033.1.f0, .int .i64 y9033.1.f1, .int .i64 y9033.1.f2, str y9033.1.f3, .float .f64 y9033.1.f4] :: optP (obj48 Z656 wz657) p671 y9033.2.2.2 :: own (kM Z656 wz657 k30) 25 A661 n662 c663 l660 :: own k30 30 B689 m690 d691 y687 :: own (kI .i64) 3 (some ⟨g703, 0, none⟩) ((a0.length : Int).toNat) ((a0.length : Int).toNat) l8269 :: zone Z656 wz657 :: L) y9033.1 x9770 h9774 hS) (fun v w hR => ?_) rfl rfl
            obtain ⟨rfl, hS⟩ := hR
            refine hK _ [(46, .bool (!y9773)), (47, .bool (!y9773))] _ rfl ?_
            refine dEnd [46, 47] (by kernel_rfl) ⟨puOn rfl rfl rfl rfl [(146, .bool (!y9767)), (152, .bool y9773)] rfl hb9769 (fun ac hA => r_not rfl (hA.ev rfl)) rfl, pu rfl rfl [(146, .bool (!y9767)), (153, .bool (!y9773))] (fun ac hA => y_pickf hb9769 hA rfl rfl rfl) rfl rfl, trivial⟩ ⟨by kernel_rfl, by kernel_rfl⟩ [(0, .slice A0 n0 c0), (3, .slice A661 n662 c663), (7, .pointer p671), (11, .slice B689 m690 d691), (12, .slice (some ⟨g703, 0, none⟩) ((a0.length : Int).toNat) ((a0.length : Int).toNat)), (13, .int .i64 x8270), (14, .pointer (some ⟨g9035, 0, none⟩)), (15, .int .i64 y9033.2.1), (110, .int .i64 y9033.2.1), (111, .bool (decide (y9033.2.1 < 0))), (114, .int .i64 y9033.2.1), (115, .slice A0 n0 c0), (116, .int .i64 (a0.length : Int)), (117, .bool (decide ((a0.length : Int) ≤ y9033.2.1))), (120, .slice (some ⟨g703, 0, none⟩) ((a0.length : Int).toNat) ((a0.length : Int).toNat)), (121, .int .i64 y9033.2.1), (123, .int .i64 x9747), (124, .slice A661 n662 c663), (125, .int .i64 y9033.2.1), (127, .slice A9753 n9754 c9755), (128, .int .i64 (x9750.length : Int)), (129, .bool (decide ((x9750.length : Int) ≤ x9747))), (132, .agg #[.int .u64 y9033.1.f0, .int .i64 y9033.1.f1, .int .i64 y9033.1.f2, str y9033.1.f3, .float .f64 y9033.1.f4]), (133, .slice A661 n662 c663), (134, .int .i64 y9033.2.1), (136, .slice A9759 n9760 c9761), (137, .slice (some ⟨g703, 0, none⟩) ((a0.length : Int).toNat) ((a0.length : Int).toNat)), (138, .int .i64 y9033.2.1), (140, .int .i64 x9747), (142, .agg #[.int .u64 x9764.f0, .int .i64 x9764.f1, .int .i64 x9764.f2, str x9764.f3, .float .f64 x9764.f4]), (143, .bool y9767), (144, .bool (!y9767)), (147, .agg #[.int .u64 y9033.1.f0, .int .i64 y9033.1.f1, .int .i64 y9033.1.f2, str y9033.1.f3, .float .f64 y9033.1.f4]), (148, .slice B689 m690 d691), (149, .int .i64 x8270), (151, .agg #[.int .u64 x9770.f0, .int .i64 x9770.f1, .int .i64 x9770.f2, str x9770.f3, .float .f64 x9770.f4]), (152, .bool y9773), (153, .bool (!y9773)), (154, .bool (!y9773))] rfl (fun ac hA => ?_)
            exact hj4 (!y9773) hF ac w (hA.sub _ rfl) hS
          replace hF := iff' hb9029 hF
          refine wp_exit ?_
          replace hS := hS.drop 1
          replace hS := hS.drop 1
          replace hS := hS.drop 1
          cases hF
          exact hx9025_2 o8268 (T9025_ _ rfl) ac w (hA.sub _ rfl) hS
        refine wp_reg ?_
        refine x_move hA (fun ac hA => ?_) rfl rfl rfl rfl rfl
        refine x_val hA (r_neI rfl (hA.ev rfl) (hA.ev rfl)) (fun ac hA => ?_) rfl rfl rfl
        refine x_move hA (fun ac hA => ?_) rfl rfl rfl rfl rfl
        refine bcase (b := y669.2 != 0) (fun hb9775 => ?_) fun hb9775 => ?_
        · replace hF := ift hb9775 hF
          refine x_off hb9775 hA (fun ac hA => ?_) rfl rfl rfl rfl rfl
          refine x_off hb9775 hA (fun ac hA => ?_) rfl rfl rfl rfl rfl
          refine x_pickt hb9775 hA (fun ac hA => ?_) rfl rfl rfl rfl rfl rfl
          refine x_move hA (fun ac hA => ?_) rfl rfl rfl rfl rfl
          refine x_off rfl hA (fun ac hA => ?_) rfl rfl rfl rfl rfl
          refine x_off rfl hA (fun ac hA => ?_) rfl rfl rfl rfl rfl
          refine x_off rfl hA (fun ac hA => ?_) rfl rfl rfl rfl rfl
          refine x_off rfl hA (fun ac hA => ?_) rfl rfl rfl rfl rfl
          refine x_pickt rfl hA (fun ac hA => ?_) rfl rfl rfl rfl rfl rfl
          refine wpList_nil ?_
          replace hS := hS.drop 3
          replace hS := hS.drop 3
          replace hS := hS.pk 3
          replace hS := hS.pk 1
          replace hS := hS.pk 3
          replace hS := hS.pk 3
          exact hj3 true hF ac w (hA.sub _ rfl) hS
        replace hF := iff' hb9775 hF
        refine x_on hb9775 hA ?_ rfl rfl rfl
        refine x_move hA (fun ac hA => ?_) rfl rfl rfl rfl rfl
        refine x_on hb9775 hA ?_ rfl rfl rfl
        refine x_val hA (r_neI rfl (hA.ev rfl) (hA.ev rfl)) (fun ac hA => ?_) rfl rfl rfl
        refine x_pickf hb9775 hA (fun ac hA => ?_) rfl rfl rfl rfl rfl rfl
        refine x_move hA (fun ac hA => ?_) rfl rfl rfl rfl rfl
        refine bcase (b := y673.2 != 0) (fun hb9776 => ?_) fun hb9776 => ?_
        · replace hF := ift hb9776 hF
          refine x_off hb9776 hA (fun ac hA => ?_) rfl rfl rfl rfl rfl
          refine x_off hb9776 hA (fun ac hA => ?_) rfl rfl rfl rfl rfl
          refine x_off hb9776 hA (fun ac hA => ?_) rfl rfl rfl rfl rfl
          refine x_off hb9776 hA (fun ac hA => ?_) rfl rfl rfl rfl rfl
          refine x_pickt hb9776 hA (fun ac hA => ?_) rfl rfl rfl rfl rfl rfl
          refine wpList_nil ?_
          replace hS := hS.drop 3
          replace hS := hS.drop 3
          replace hS := hS.pk 3
          replace hS := hS.pk 1
          replace hS := hS.pk 3
          replace hS := hS.pk 3
          exact hj3 true hF ac w (hA.sub _ rfl) hS
        replace hF := iff' hb9776 hF
        refine x_on hb9776 hA ?_ rfl rfl rfl
        refine x_move hA (fun ac hA => ?_) rfl rfl rfl rfl rfl
        refine x_on hb9776 hA ?_ rfl rfl rfl
        refine x_move hA (fun ac hA => ?_) rfl rfl rfl rfl rfl
        refine x_on hb9776 hA ?_ rfl rfl rfl
        obtain ⟨y9777, h9778, hF⟩ := bnd hF
        refine x_call en16 hA (F_r06_SameAll (L := own k30 30 B689 m690 d691 y687 :: optP (obj48 Z656 wz657) p671 y669.1 :: own (kM Z656 wz657 k30) 25 A661 n662 c663 l660 :: own k30 30 A665 n666 c667 l664 :: own k30 30 B675 m676 d677 y673.1 :: zone Z656 wz657 :: L) y673.1 y687 B675 m676 d677 B689 m690 d691 h9778 (RdL.own 4 rfl (hS.dropN 0)) (RdL.own 0 rfl (hS.dropN 0)) hS) (fun v ac w hR hA => ?_) rfl rfl rfl rfl rfl
        obtain ⟨rfl, hS⟩ := hR
        refine x_on hb9776 hA ?_ rfl rfl rfl
        refine x_val hA (r_not rfl (hA.ev rfl)) (fun ac hA => ?_) rfl rfl rfl
        refine x_pickf hb9776 hA (fun ac hA => ?_) rfl rfl rfl rfl rfl rfl
        refine wpList_nil ?_
        replace hS := hS.drop 3
        replace hS := hS.drop 3
        replace hS := hS.pk 3
        replace hS := hS.pk 1
        replace hS := hS.pk 3
        replace hS := hS.pk 3
        exact hj3 (!y9777) hF ac w (hA.sub _ rfl) hS
      refine wp_reg ?_
      refine x_move hA (fun ac hA => ?_) rfl rfl rfl rfl rfl
      refine x_len Try.underlying22 (hS.imm 4 h659 rfl).2.1 hA (fun ac hA => ?_) rfl rfl rfl rfl rfl
      refine x_val hA (r_ltI rfl (hA.ev rfl) (hA.ev rfl)) (fun ac hA => ?_) rfl rfl rfl
      refine x_move hA (fun ac hA => ?_) rfl rfl rfl rfl rfl
      refine bcase (b := decide ((a0.length : Int) < 1)) (fun hb9779 => ?_) fun hb9779 => ?_
      · replace hF := ift hb9779 hF
        refine x_off hb9779 hA (fun ac hA => ?_) rfl rfl rfl rfl rfl
        refine x_off hb9779 hA (fun ac hA => ?_) rfl rfl rfl rfl rfl
        refine x_off hb9779 hA (fun ac hA => ?_) rfl rfl rfl rfl rfl
        refine x_pickt hb9779 hA (fun ac hA => ?_) rfl rfl rfl rfl rfl rfl
        refine wpList_nil ?_
        replace hS := hS.pk 4
        replace hS := hS.pk 1
        replace hS := hS.pk 4
        replace hS := hS.pk 4
        replace hS := hS.pk 4
        exact hj2 true hF ac w (hA.sub _ rfl) hS
      replace hF := iff' hb9779 hF
      refine x_on hb9779 hA ?_ rfl rfl rfl
      refine x_move hA (fun ac hA => ?_) rfl rfl rfl rfl rfl
      refine x_on hb9779 hA ?_ rfl rfl rfl
      refine x_len Try.underlying22 (hS.imm 4 h659 rfl).2.1 hA (fun ac hA => ?_) rfl rfl rfl rfl rfl
      refine x_on hb9779 hA ?_ rfl rfl rfl
      refine x_val hA (r_gtI rfl (hA.ev rfl) (hA.ev rfl)) (fun ac hA => ?_) rfl rfl rfl
      refine x_pickf hb9779 hA (fun ac hA => ?_) rfl rfl rfl rfl rfl rfl
      refine wpList_nil ?_
      replace hS := hS.pk 4
      replace hS := hS.pk 1
      replace hS := hS.pk 4
      replace hS := hS.pk 4
      replace hS := hS.pk 4
      exact hj2 (decide (16 < (a0.length : Int))) hF ac w (hA.sub _ rfl) hS
    obtain ⟨t9914, hl9914, hF⟩ := bnd hF
    have hx9914_0 : ∀ (l9907 : (List (List S30))) (l9911 : (List S30)), (l9907, l9911) = t9914 → ∀ (Z9903 : Nat → Prop) (wz9904 : World) (A9908 : Option Addr) (n9909 : Nat) (c9910 : Nat) (A9912 : Option Addr) (n9913 : Nat) (c9914 : Nat) (h9905 : Sub Z wz Z9903 wz9904) (h9906 : Imm Z9903 wz9904 (kM Z9903 wz9904 k30) A0 n0 c0 a0) (ac : Act) (w : World), FR 209 [] ac [(0, .slice A0 n0 c0), (3, .slice A9908 n9909 c9910), (4, .slice A9912 n9913 c9914)] → SH r (own (kM Z9903 wz9904 k30) 25 A9908 n9909 c9910 l9907 :: own k30 30 A9912 n9913 c9914 l9911 :: zone Z9903 wz9904 :: L) w → Kx485 ac w := by
      intro l9907 l9911 ht Z9903 wz9904 A9908 n9909 c9910 A9912 n9913 c9914 h9905 h9906 ac w hA hS
      subst ht
      replace hF : law09_MergeRuns_x3_0 a0 l9907 l9911 = some y := hF
      unfold law09_MergeRuns_x3_0 at hF
      exact hb1 l9907 l9911 hF Z9903 wz9904 A9908 n9909 c9910 A9912 n9913 c9914 h9905 h9906 ac w (hA.sub _ rfl) hS
    replace hS := SH.nil_own (d := (kM Z113 wz114 k30)) (e := 25) hS
    replace hS := SH.nil_own (d := k30) (e := 30) hS
    replace hS := hS.pk 2
    replace hS := hS.pk 1
    replace hS := hS.pk 2
    refine wp_loop_fn hl9914 (fun s ac w => ∃ (Z9843 : Nat → Prop) (wz9844 : World) (A9848 : Option Addr) (n9849 : Nat) (c9850 : Nat) (A9852 : Option Addr) (n9853 : Nat) (c9854 : Nat), Sub Z wz Z9843 wz9844 ∧ Imm Z9843 wz9844 (kM Z9843 wz9844 k30) A0 n0 c0 a0 ∧ FR 209 [] ac [(0, .slice A0 n0 c0), (3, .slice A9848 n9849 c9850), (4, .slice A9852 n9853 c9854), (5, .int .i64 s.2.2)] ∧ SH r (own (kM Z9843 wz9844 k30) 25 A9848 n9849 c9850 s.1 :: own k30 30 A9852 n9853 c9854 s.2.1 :: zone Z9843 wz9844 :: L) w) ⟨Z113, wz114, none, 0, 0, none, 0, 0, h115, h116, hA.sub _ rfl, hS⟩ ?_
    intro N9914 s9914 o9914 hF N9914_ T9914_ ac w hLab
    obtain ⟨l9847, l9851, x9855⟩ := s9914
    replace hF : law09_MergeRuns_l3 a0 l9847 l9851 x9855 = some o9914 := hF
    unfold law09_MergeRuns_l3 at hF
    try dsimp only at hLab
    obtain ⟨Z9843, wz9844, A9848, n9849, c9850, A9852, n9853, c9854, h9845, h9846, hA, hS⟩ := hLab
    refine wp_seq_k fun K9916 hK9916 => ?_
    refine wp_seq_k fun K9917 hK9917 => ?_
    refine wp_reg ?_
    refine x_move hA (fun ac hA => ?_) rfl rfl rfl rfl rfl
    refine x_move hA (fun ac hA => ?_) rfl rfl rfl rfl rfl
    refine x_len Try.underlying22 (hS.imm 2 h9846 rfl).2.1 hA (fun ac hA => ?_) rfl rfl rfl rfl rfl
    refine x_val hA (r_ltI rfl (hA.ev rfl) (hA.ev rfl)) (fun ac hA => ?_) rfl rfl rfl
    refine wpList_nil ?_
    refine hK9917 _ _ ?_
    refine c_if hA rfl (fun hb9918 => ?_) fun hb9918 => ?_
    · replace hF := ift hb9918 hF
      refine wp_skip ?_
      refine hK9916 _ _ ?_
      refine wp_seq_k fun K9919 hK9919 => ?_
      refine wp_block_k fun Kx9920 hKx9920 => ?_
      refine wp_seq_k fun K9921 hK9921 => ?_
      refine wp_reg ?_
      refine x_move hA (fun ac hA => ?_) rfl rfl rfl rfl rfl
      refine x_move hA (fun ac hA => ?_) rfl rfl rfl rfl rfl
      obtain ⟨x9922, h9923, hF⟩ := bnd hF
      refine x_ia Try.underlying22 sz25 (hS.imm 2 h9846 rfl) h9923 hA (fun ac hA => ?_) rfl rfl rfl rfl rfl rfl
      obtain ⟨cs, hV, hc9924⟩ := el (hS.imm 2 h9846 rfl) h9923
      obtain ⟨A9925, n9926, c9927, rfl, h9928⟩ := hV
      refine x_ld Try.underlying25 (hc9924 0 _ rfl) hA (fun ac hA => ?_) rfl rfl rfl rfl rfl rfl
      obtain ⟨y9929, h9930, hF⟩ := bnd hF
      refine x_call en15 hA (F_r06_Sort (L := own (kM Z9843 wz9844 k30) 25 A9848 n9849 c9850 l9847 :: own k30 30 A9852 n9853 c9854 l9851 :: zone Z9843 wz9844 :: L) x9922 A9925 n9926 c9927 h9930 (h9928.rdl 2 rfl) hS) (fun v ac w hR hA => ?_) rfl rfl rfl rfl rfl
      obtain ⟨B9931, m9932, d9933, rfl, hS⟩ := hR
      refine x_assign hA (fun ac hA => ?_) rfl rfl rfl rfl rfl
      refine wpList_nil ?_
      refine hK9921 _ _ ?_
      refine wp_seq_k fun K9934 hK9934 => ?_
      refine wp_reg ?_
      refine x_move hA (fun ac hA => ?_) rfl rfl rfl rfl rfl
      refine x_move hA (fun ac hA => ?_) rfl rfl rfl rfl rfl
      replace hS := hS.pk 3
      replace hS := hS.pk 1
      obtain ⟨Z9935, wz9936, hS, h9937, sb9938⟩ := SH.freeze (n := m9932) (c := d9933) (A := B9931) hS
      have h9939 := Imm.kind (d' := (kM Z9935 wz9936 k30)) (Imm.sub h9846 sb9938) rfl (kM_sub sb9938)
      have h9940 := Imm.sub h9928 sb9938
      replace hS := hS.pk 1
      replace hS := hS.kind (d' := (kM Z9935 wz9936 k30)) rfl (kM_sub sb9938)
      refine x_bsl (d := (kM Z9935 wz9936 k30)) (e := 25) (ps := #[(0, .slice B9931 m9932 d9933)]) (cells := [.slice B9931 m9932 d9933]) (xs := [y9929]) (fun w => by kernel_rfl) rfl ⟨[.slice B9931 m9932 d9933], _, rfl, ⟨_, _, _, rfl, h9937⟩, rfl⟩ hA hS (fun g9941 ac w hS hA => ?_) rfl rfl rfl rfl rfl rfl
      obtain ⟨h9942, hF⟩ := chk_some hF
      have hr := hS.rd 0 rfl
      refine x_app 1 inf25 Try.underlying22 hA hS hr.1 hr.2.1 h9942 rfl (fun A9943 n9944 c9945 ac w hS hA => ?_) rfl rfl rfl rfl rfl rfl rfl rfl rfl
      refine x_assign hA (fun ac hA => ?_) rfl rfl rfl rfl rfl
      refine wpList_nil ?_
      refine hK9934 _ _ ?_
      refine wp_reg ?_
      refine x_move hA (fun ac hA => ?_) rfl rfl rfl rfl rfl
      refine x_move hA (fun ac hA => ?_) rfl rfl rfl rfl rfl
      obtain ⟨h9946, hF⟩ := chk_some hF
      have hr := hS.imm 2 h9937 rfl
      refine x_app 3 inf30 Try.underlying25 hA hS hr.1 hr.2.1 h9946 rfl (fun A9947 n9948 c9949 ac w hS hA => ?_) rfl rfl rfl rfl rfl rfl rfl rfl rfl
      refine x_assign hA (fun ac hA => ?_) rfl rfl rfl rfl rfl
      refine wpList_nil ?_
      refine hKx9920 _ _ ?_
      refine hK9919 _ _ ?_
      refine wp_reg ?_
      refine x_move hA (fun ac hA => ?_) rfl rfl rfl rfl rfl
      refine x_val hA (r_add rfl (hA.ev rfl) (hA.ev rfl)) (fun ac hA => ?_) rfl rfl rfl
      refine x_assign hA (fun ac hA => ?_) rfl rfl rfl rfl rfl
      refine wpList_nil ?_
      replace hS := hS.drop 2
      replace hS := hS.pk 2
      replace hS := hS.pk 1
      replace hS := hS.pk 2
      cases hF
      exact ⟨_, N9914_ _ rfl, Z9935, wz9936, A9943, n9944, c9945, A9947, n9948, c9949, (Sub.trans h9845 sb9938), h9939, hA.sub _ rfl, hS⟩
    replace hF := iff' hb9918 hF
    refine wp_exit ?_
    cases hF
    exact hx9914_0 l9847 l9851 (T9914_ _ rfl) Z9843 wz9844 A9848 n9849 c9850 A9852 n9853 c9854 h9845 h9846 ac w (hA.sub _ rfl) hS
  refine wp_reg ?_
  obtain ⟨y9950, h9951, hF⟩ := bnd hF
  refine x_call en10 hA (F_law09_awake (L := L) h9951 hS) (fun v ac w hR hA => ?_) rfl rfl rfl rfl rfl
  obtain ⟨Z9952, wz9953, rfl, h9954, hS⟩ := hR
  have h9955 := Imm.kind (d' := (kM Z9952 wz9953 k30)) (Imm.sub ha0 h9954) rfl (kM_sub h9954)
  refine x_val hA (r_not rfl (hA.ev rfl)) (fun ac hA => ?_) rfl rfl rfl
  refine x_move hA (fun ac hA => ?_) rfl rfl rfl rfl rfl
  refine bcase (b := !y9950) (fun hb9956 => ?_) fun hb9956 => ?_
  · replace hF := ift hb9956 hF
    refine x_off hb9956 hA (fun ac hA => ?_) rfl rfl rfl rfl rfl
    refine x_off hb9956 hA (fun ac hA => ?_) rfl rfl rfl rfl rfl
    refine x_off hb9956 hA (fun ac hA => ?_) rfl rfl rfl rfl rfl
    refine x_pickt hb9956 hA (fun ac hA => ?_) rfl rfl rfl rfl rfl rfl
    refine wpList_nil ?_
    exact hj1 true hF Z9952 wz9953 h9954 h9955 ac w (hA.sub _ rfl) hS
  replace hF := iff' hb9956 hF
  refine x_on hb9956 hA ?_ rfl rfl rfl
  refine x_move hA (fun ac hA => ?_) rfl rfl rfl rfl rfl
  refine x_on hb9956 hA ?_ rfl rfl rfl
  obtain ⟨y9957, h9958, hF⟩ := bnd hF
  refine x_call en11 hA (F_law09_few (L := zone Z9952 wz9953 :: L) a0 A0 n0 c0 h9958 0 rfl (h9955.rdl 0 rfl) hS) (fun v ac w hR hA => ?_) rfl rfl rfl rfl rfl
  obtain ⟨rfl, hS⟩ := hR
  refine x_on hb9956 hA ?_ rfl rfl rfl
  refine x_val hA (r_not rfl (hA.ev rfl)) (fun ac hA => ?_) rfl rfl rfl
  refine x_pickf hb9956 hA (fun ac hA => ?_) rfl rfl rfl rfl rfl rfl
  refine wpList_nil ?_
  exact hj1 (!y9957) hF Z9952 wz9953 h9954 h9955 ac w (hA.sub _ rfl) hS
end Go.Proofs.Ytpanacifejpjhaa.M
