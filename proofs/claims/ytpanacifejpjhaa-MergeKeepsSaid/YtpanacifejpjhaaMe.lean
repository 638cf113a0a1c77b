/- The calls come to the plain functions. -/
import Derived.Test.YtpanacifejpjhaaMc
import Derived.Test.YtpanacifejpjhaaDe
namespace Go.Proofs.Ytpanacifejpjhaa.M
open Go Go.RowKit Go.Proofs.Ytpanacifejpjhaa.E
set_option linter.unusedVariables false
set_option linter.unusedSimpArgs false

set_option maxHeartbeats 4000000 in
theorem F_law09_MergeKeeps {r : World} {L : List HP} {w : World} {Z : Nat → Prop} {wz : World} (a0 : (List (List S30))) (A0 : Option Addr) (n0 : Nat) (c0 : Nat) {y : (Bool)} (hF : law09_MergeKeeps a0 = some y) (ha0 : Imm Z wz (kM Z wz k30) A0 n0 c0 a0) (hS : SH r (zone Z wz :: L) w) :
    Ret Try.prog 6 #[.slice A0 n0 c0] w fun v w' => ∃ (Z' : Nat → Prop) (wz' : World), v = .bool y ∧ Sub Z wz Z' wz' ∧ SH r (zone Z' wz' :: L) w' := by
  refine enter Try.func6 rfl Try.ntmps6 [(0, .slice A0 n0 c0)] rfl (by simp) ?_
  intro ac hA Qf hQ hQn
  unfold law09_MergeKeeps at hF
  refine wp_seq_k fun K101 hK101 => ?_
  refine wp_reg ?_
  refine x_assign hA (fun ac hA => ?_) rfl rfl rfl rfl rfl
  refine wpList_nil ?_
  refine hK101 _ _ ?_
  refine wp_seq_k fun K102 hK102 => ?_
  refine wp_seq_k fun K103 hK103 => ?_
  have hj1 : ∀ (b119 : Bool), law09_MergeKeeps_j1 a0 b119 = some y → ∀ (Z115 : Nat → Prop) (wz116 : World) (h117 : Sub Z wz Z115 wz116) (h118 : Imm Z115 wz116 (kM Z115 wz116 k30) A0 n0 c0 a0) (ac : Act) (w : World), FR 99 [] ac [(0, .slice A0 n0 c0), (32, .bool b119)] → SH r (zone Z115 wz116 :: L) w → K103 ac w := by
    intro b119 hF Z115 wz116 h117 h118 ac w hA hS
    unfold law09_MergeKeeps_j1 at hF
    refine hK103 _ _ ?_
    refine c_if hA rfl (fun hb120 => ?_) fun hb120 => ?_
    · replace hF := ift hb120 hF
      refine wp_seq_k fun K121 hK121 => ?_
      refine wp_reg ?_
      obtain ⟨y122, h123, hF⟩ := bnd hF
      refine x_call en10 hA (F_law09_awake (L := L) h123 hS) (fun v ac w hR hA => ?_) rfl rfl rfl rfl rfl
      obtain ⟨Z124, wz125, rfl, h126, hS⟩ := hR
      have h127 := Imm.kind (d' := (kM Z124 wz125 k30)) (Imm.sub h118 h126) rfl (kM_sub h126)
      refine x_assign hA (fun ac hA => ?_) rfl rfl rfl rfl rfl
      refine wpList_nil ?_
      refine hK121 _ _ ?_
      refine wp_ret ?_
      cases hF
      refine hQ _ _ ?_
      refine lv Try.results6 hA rfl ?_
      exact ⟨Z124, wz125, rfl, (Sub.trans h117 h126), hS⟩
    replace hF := iff' hb120 hF
    refine wp_skip ?_
    refine hK102 _ _ ?_
    refine wp_seq_k fun K128 hK128 => ?_
    refine wp_reg ?_
    refine x_assign hA (fun ac hA => ?_) rfl rfl rfl rfl rfl
    refine wpList_nil ?_
    refine hK128 _ _ ?_
    refine wp_seq_k fun K129 hK129 => ?_
    refine wp_reg ?_
    refine x_assign hA (fun ac hA => ?_) rfl rfl rfl rfl rfl
    refine wpList_nil ?_
    refine hK129 _ _ ?_
    refine wp_seq_k fun K130 hK130 => ?_
    refine wp_seq_k fun K567 hK567 => ?_
    refine wp_reg ?_
    refine x_assign hA (fun ac hA => ?_) rfl rfl rfl rfl rfl
    refine wpList_nil ?_
    refine hK567 _ _ ?_
    refine wp_block_k fun Kx568 hKx568 => ?_
    have hb1 : ∀ (l783 : (List (List S30))) (l787 : (List (List S30))), law09_MergeKeeps_b1 l783 l787 = some y → ∀ (Z780 : Nat → Prop) (wz781 : World) (A784 : Option Addr) (n785 : Nat) (c786 : Nat) (A788 : Option Addr) (n789 : Nat) (c790 : Nat) (h782 : Sub Z wz Z780 wz781) (ac : Act) (w : World), FR 99 [] ac [(3, .slice A784 n785 c786), (4, .slice A788 n789 c790)] → SH r (own (kM Z780 wz781 k30) 25 A784 n785 c786 l783 :: own (kM Z780 wz781 k30) 25 A788 n789 c790 l787 :: zone Z780 wz781 :: L) w → Kx568 ac w := by
      intro l783 l787 hF Z780 wz781 A784 n785 c786 A788 n789 c790 h782 ac w hA hS
      unfold law09_MergeKeeps_b1 at hF
      refine hKx568 _ _ ?_
      refine hK130 _ _ ?_
      refine wp_seq_k fun K791 hK791 => ?_
      refine wp_reg ?_
      refine x_move hA (fun ac hA => ?_) rfl rfl rfl rfl rfl
      obtain ⟨y792, h793, hF⟩ := bnd hF
      refine x_call en14 hA (F_merge_All (L := own (kM Z780 wz781 k30) 25 A784 n785 c786 l783 :: own (kM Z780 wz781 k30) 25 A788 n789 c790 l787 :: zone Z780 wz781 :: L) l787 A788 n789 c790 h793 2 rfl (RdL.own 1 rfl (hS.dropN 0)) hS) (fun v ac w hR hA => ?_) rfl rfl rfl rfl rfl
      obtain ⟨B794, m795, d796, rfl, hS⟩ := hR
      refine x_move hA (fun ac hA => ?_) rfl rfl rfl rfl rfl
      refine x_val hA (r_extract rfl (hA.ev rfl) rfl) (fun ac hA => ?_) rfl rfl rfl
      refine x_val hA (r_extract rfl (hA.ev rfl) rfl) (fun ac hA => ?_) rfl rfl rfl
      refine x_assign hA (fun ac hA => ?_) rfl rfl rfl rfl rfl
      refine x_assign hA (fun ac hA => ?_) rfl rfl rfl rfl rfl
      refine wpList_nil ?_
      refine hK791 _ _ ?_
      refine wp_seq_k fun K797 hK797 => ?_
      refine wp_seq_k fun K857 hK857 => ?_
      refine wp_reg ?_
      refine x_assign hA (fun ac hA => ?_) rfl rfl rfl rfl rfl
      refine wpList_nil ?_
      refine hK857 _ _ ?_
      refine wp_block_k fun Kx858 hKx858 => ?_
      have hb2 : law09_MergeKeeps_b2 l783 l787 y792 = some y → ∀ (ac : Act) (w : World), FR 99 [] ac [(3, .slice A784 n785 c786), (4, .slice A788 n789 c790), (9, .int .i64 y792.2)] → SH r (own (kM Z780 wz781 k30) 25 A784 n785 c786 l783 :: own (kM Z780 wz781 k30) 25 A788 n789 c790 l787 :: zone Z780 wz781 :: L) w → Kx858 ac w := by
        intro hF ac w hA hS
        unfold law09_MergeKeeps_b2 at hF
        refine hKx858 _ _ ?_
        refine hK797 _ _ ?_
        refine wp_seq_k fun K887 hK887 => ?_
        refine wp_seq_k fun K1043 hK1043 => ?_
        refine wp_reg ?_
        refine x_assign hA (fun ac hA => ?_) rfl rfl rfl rfl rfl
        refine wpList_nil ?_
        refine hK1043 _ _ ?_
        refine wp_block_k fun Kx1044 hKx1044 => ?_
        have hb3 : law09_MergeKeeps_b3 y792 = some y → ∀ (ac : Act) (w : World), FR 99 [] ac [(9, .int .i64 y792.2)] → SH r (zone Z780 wz781 :: L) w → Kx1044 ac w := by
          intro hF ac w hA hS
          unfold law09_MergeKeeps_b3 at hF
          refine hKx1044 _ _ ?_
          refine hK887 _ _ ?_
          refine wp_seq_k fun K1121 hK1121 => ?_
          refine wp_reg ?_
          refine x_assign hA (fun ac hA => ?_) rfl rfl rfl rfl rfl
          refine wpList_nil ?_
          refine hK1121 _ _ ?_
          refine wp_seq_k fun K1122 hK1122 => ?_
          refine wp_reg ?_
          refine x_move hA (fun ac hA => ?_) rfl rfl rfl rfl rfl
          replace hS := SH.optN (obj48 Z780 wz781) hS
          obtain ⟨y1123, h1124, hF⟩ := bnd hF
          refine x_call en17 hA (F_merge_Tree_Next (L := zone Z780 wz781 :: L) none none h1124 0 rfl hS) (fun v ac w hR hA => ?_) rfl rfl rfl rfl rfl
          obtain ⟨rfl, hS⟩ := hR
          refine x_move hA (fun ac hA => ?_) rfl rfl rfl rfl rfl
          refine x_val hA (r_extract rfl (hA.ev rfl) rfl) (fun ac hA => ?_) rfl rfl rfl
          refine x_val hA (r_extract rfl (hA.ev rfl) rfl) (fun ac hA => ?_) rfl rfl rfl
          refine x_val hA (r_extract rfl (hA.ev rfl) rfl) (fun ac hA => ?_) rfl rfl rfl
          refine x_alloc (cs := [.int .u64 0, .int .i64 0, .int .i64 0, str [], .float .f64 0]) zr30 hA hS (fun g1125 ac w hS hA => ?_) rfl rfl rfl rfl rfl
          refine x_stb 0 sz30 hA hS rfl (fun  ac w hS hA => ?_) rfl rfl rfl rfl rfl rfl rfl rfl
          refine x_assign hA (fun ac hA => ?_) rfl rfl rfl rfl rfl
          refine x_assign hA (fun ac hA => ?_) rfl rfl rfl rfl rfl
          refine wpList_nil ?_
          refine hK1122 _ _ ?_
          refine wp_seq_k fun K1126 hK1126 => ?_
          refine wp_reg ?_
          refine x_move hA (fun ac hA => ?_) rfl rfl rfl rfl rfl
          refine x_val hA (r_eqI rfl (hA.ev rfl) (hA.ev rfl)) (fun ac hA => ?_) rfl rfl rfl
          refine x_move hA (fun ac hA => ?_) rfl rfl rfl rfl rfl
          refine bcase (b := y792.2 == 0) (fun hb1127 => ?_) fun hb1127 => ?_
          · replace hF := ift hb1127 hF
            refine x_on hb1127 hA ?_ rfl rfl rfl
            refine x_move hA (fun ac hA => ?_) rfl rfl rfl rfl rfl
            refine x_on hb1127 hA ?_ rfl rfl rfl
            refine x_val hA (r_not rfl (hA.ev rfl)) (fun ac hA => ?_) rfl rfl rfl
            refine x_pickt hb1127 hA (fun ac hA => ?_) rfl rfl rfl rfl rfl rfl
            refine x_assign hA (fun ac hA => ?_) rfl rfl rfl rfl rfl
            refine wpList_nil ?_
            refine hK1126 _ _ ?_
            refine wp_ret ?_
            replace hS := hS.drop 0
            replace hS := hS.drop 0
            cases hF
            refine hQ _ _ ?_
            refine lv Try.results6 hA rfl ?_
            exact ⟨Z780, wz781, rfl, h782, hS⟩
          replace hF := iff' hb1127 hF
          refine x_off hb1127 hA (fun ac hA => ?_) rfl rfl rfl rfl rfl
          refine x_off hb1127 hA (fun ac hA => ?_) rfl rfl rfl rfl rfl
          refine x_pickf hb1127 hA (fun ac hA => ?_) rfl rfl rfl rfl rfl rfl
          refine x_assign hA (fun ac hA => ?_) rfl rfl rfl rfl rfl
          refine wpList_nil ?_
          refine hK1126 _ _ ?_
          refine wp_ret ?_
          replace hS := hS.drop 0
          replace hS := hS.drop 0
          cases hF
          refine hQ _ _ ?_
          refine lv Try.results6 hA rfl ?_
          exact ⟨Z780, wz781, rfl, h782, hS⟩
        obtain ⟨t1178, hl1178, hF⟩ := bnd hF
        have hR1178 := hF
        have hx1178_4 : (.inl ()) = t1178 → ∀ (ac : Act) (w : World), FR 99 [] ac [(9, .int .i64 y792.2)] → SH r (zone Z780 wz781 :: L) w → Kx1044 ac w := by
          intro ht ac w hA hS
          subst ht
          replace hF : law09_MergeKeeps_x1_4 y792 = some y := hF
          unfold law09_MergeKeeps_x1_4 at hF
          exact hb3 hF ac w (hA.sub _ rfl) hS
        refine wp_loop_fn hl1178 (fun s ac w => FR 99 [] ac [(3, .slice A784 n785 c786), (4, .slice A788 n789 c790), (9, .int .i64 y792.2), (11, .int .i64 s)] ∧ SH r (own (kM Z780 wz781 k30) 25 A784 n785 c786 l783 :: own (kM Z780 wz781 k30) 25 A788 n789 c790 l787 :: zone Z780 wz781 :: L) w) ⟨hA.sub _ rfl, hS⟩ ?_
        intro N1178 s1178 o1178 hF N1178_ T1178_ ac w hLab
        obtain ⟨x1153, rfl⟩ : ∃ q, q = s1178 := ⟨_, rfl⟩
        replace hF : law09_MergeKeeps_l1 l783 l787 x1153 = some o1178 := hF
        unfold law09_MergeKeeps_l1 at hF
        try dsimp only at hLab
        obtain ⟨hA, hS⟩ := hLab
        refine wp_seq_k fun K1180 hK1180 => ?_
        refine wp_seq_k fun K1181 hK1181 => ?_
        refine wp_reg ?_
        refine x_move hA (fun ac hA => ?_) rfl rfl rfl rfl rfl
        refine x_move hA (fun ac hA => ?_) rfl rfl rfl rfl rfl
        refine x_len Try.underlying22 (hS.rd 1 rfl).2.1 hA (fun ac hA => ?_) rfl rfl rfl rfl rfl
        refine x_val hA (r_ltI rfl (hA.ev rfl) (hA.ev rfl)) (fun ac hA => ?_) rfl rfl rfl
        refine wpList_nil ?_
        refine hK1181 _ _ ?_
        refine c_if hA rfl (fun hb1182 => ?_) fun hb1182 => ?_
        · replace hF := ift hb1182 hF
          refine wp_skip ?_
          refine hK1180 _ _ ?_
          refine wp_seq_k fun K1183 hK1183 => ?_
          refine wp_block_k fun Kx1184 hKx1184 => ?_
          refine wp_seq_k fun K1185 hK1185 => ?_
          refine wp_draw [0, 0, 3, 7, 0, 0, 48, 112, 255, 511] [8] rfl hA hS (by kernel_rfl) (by kernel_rfl) (by kernel_rfl) (by kernel_rfl) fun w hS => ?_
          obtain ⟨x1186, h1187, hF⟩ := bnd hF
          obtain ⟨cs, hV, hc1188⟩ := el (hS.rd 1 rfl) h1187
          obtain ⟨A1189, n1190, c1191, rfl, h1192⟩ := hV
          obtain ⟨x1193, h1194, hF⟩ := bnd hF
          obtain ⟨cs, hV, hc1195⟩ := el (hS.rd 0 rfl) h1194
          obtain ⟨A1196, n1197, c1198, rfl, h1199⟩ := hV
          refine ⟨[(0, .slice A788 n789 c790), (1, .int .i64 x1153), (2, .pointer (some (ea A788 (x1153.toNat * 1)))), (3, .slice A1189 n1190 c1191), (4, .slice A784 n785 c786), (5, .int .i64 x1153), (6, .pointer (some (ea A784 (x1153.toNat * 1)))), (7, .slice A1196 n1197 c1198)], ?_⟩
          refine dEff [0, 1, 2, 3, 4, 5, 6, 7] [8] (by kernel_rfl) ⟨pu rfl rfl [(4, .slice A788 n789 c790)] (fun ac hA => y_move hA rfl rfl) rfl rfl, pu rfl rfl [(11, .int .i64 x1153)] (fun ac hA => y_move hA rfl rfl) rfl rfl, pu rfl rfl [(77, .slice A788 n789 c790), (78, .int .i64 x1153)] (fun ac hA => y_ia Try.underlying22 sz25 (hS.rd 1 rfl) h1187 hA rfl rfl rfl) rfl rfl, pu rfl rfl [(79, .pointer (some (ea A788 (x1153.toNat * 1))))] (fun ac hA => y_ld Try.underlying25 (hc1188 0 _ rfl) hA rfl rfl rfl) rfl rfl, pu rfl rfl [(3, .slice A784 n785 c786)] (fun ac hA => y_move hA rfl rfl) rfl rfl, pu rfl rfl [(11, .int .i64 x1153)] (fun ac hA => y_move hA rfl rfl) rfl rfl, pu rfl rfl [(81, .slice A784 n785 c786), (82, .int .i64 x1153)] (fun ac hA => y_ia Try.underlying22 sz25 (hS.rd 0 rfl) h1194 hA rfl rfl rfl) rfl rfl, pu rfl rfl [(83, .pointer (some (ea A784 (x1153.toNat * 1))))] (fun ac hA => y_ld Try.underlying25 (hc1195 0 _ rfl) hA rfl rfl rfl) rfl rfl, trivial⟩ (by kernel_rfl) (by kernel_rfl) ⟨ef rfl [(80, .slice A1189 n1190 c1191), (84, .slice A1196 n1197 c1198)] (fun ac hA K hK => ?_) rfl rfl, trivial⟩
          obtain ⟨y1200, h1201, hF⟩ := bnd hF
          refine z_call en16 hA (F_r06_SameAll (L := own (kM Z780 wz781 k30) 25 A784 n785 c786 l783 :: own (kM Z780 wz781 k30) 25 A788 n789 c790 l787 :: zone Z780 wz781 :: L) x1186 x1193 A1189 n1190 c1191 A1196 n1197 c1198 h1201 (h1192.rdl 2 rfl) (h1199.rdl 2 rfl) hS) (fun v w hR => ?_) rfl rfl
          obtain ⟨rfl, hS⟩ := hR
          refine hK _ [(9, .bool (!y1200))] _ rfl ?_
          refine dEnd [9] (by kernel_rfl) ⟨pu rfl rfl [(85, .bool y1200)] (fun ac hA => r_not rfl (hA.ev rfl)) rfl rfl, trivial⟩ ⟨by kernel_rfl, by kernel_rfl⟩ [(3, .slice A784 n785 c786), (4, .slice A788 n789 c790), (9, .int .i64 y792.2), (11, .int .i64 x1153), (86, .bool (!y1200))] rfl (fun ac hA => ?_)
          refine hK1185 _ _ ?_
          refine c_if hA rfl (fun hb1202 => ?_) fun hb1202 => ?_
          · replace hF := ift hb1202 hF
            refine wp_seq_k fun K1203 hK1203 => ?_
            refine wp_reg ?_
            refine x_assign hA (fun ac hA => ?_) rfl rfl rfl rfl rfl
            refine wpList_nil ?_
            refine hK1203 _ _ ?_
            refine wp_ret ?_
            replace hS := hS.drop 0
            replace hS := hS.drop 0
            cases hF
            have ht := T1178_ _ rfl
            subst ht
            replace hF := hR1178
            replace hF : some false = some y := hF
            cases hF
            refine hQ _ _ ?_
            refine lv Try.results6 hA rfl ?_
            exact ⟨Z780, wz781, rfl, h782, hS⟩
          replace hF := iff' hb1202 hF
          refine wp_skip ?_
          refine hKx1184 _ _ ?_
          refine hK1183 _ _ ?_
          refine wp_reg ?_
          refine x_move hA (fun ac hA => ?_) rfl rfl rfl rfl rfl
          refine x_val hA (r_add rfl (hA.ev rfl) (hA.ev rfl)) (fun ac hA => ?_) rfl rfl rfl
          refine x_assign hA (fun ac hA => ?_) rfl rfl rfl rfl rfl
          refine wpList_nil ?_
          cases hF
          exact ⟨_, N1178_ _ rfl, hA.sub _ rfl, hS⟩
        replace hF := iff' hb1182 hF
        refine wp_exit ?_
        replace hS := hS.drop 0
        replace hS := hS.drop 0
        cases hF
        exact hx1178_4 (T1178_ _ rfl) ac w (hA.sub _ rfl) hS
      obtain ⟨t1223, hl1223, hF⟩ := bnd hF
      have hx1223_2 : () = t1223 → ∀ (ac : Act) (w : World), FR 99 [] ac [(3, .slice A784 n785 c786), (4, .slice A788 n789 c790), (9, .int .i64 y792.2)] → SH r (own (kM Z780 wz781 k30) 25 A784 n785 c786 l783 :: own (kM Z780 wz781 k30) 25 A788 n789 c790 l787 :: zone Z780 wz781 :: L) w → Kx858 ac w := by
        intro ht ac w hA hS
        subst ht
        replace hF : law09_MergeKeeps_x2_2 l783 l787 y792 = some y := hF
        unfold law09_MergeKeeps_x2_2 at hF
        exact hb2 hF ac w (hA.sub _ rfl) hS
      replace hS := hS.pk 3
      replace hS := hS.pk 1
      replace hS := hS.pk 3
      replace hS := hS.pk 3
      refine wp_loop_fn hl1223 (fun s ac w => FR 99 [] ac [(3, .slice A784 n785 c786), (4, .slice A788 n789 c790), (8, .slice B794 m795 d796), (9, .int .i64 y792.2), (10, .int .i64 s.2)] ∧ SH r (own (kM Z780 wz781 k30) 25 A784 n785 c786 l783 :: own (kM Z780 wz781 k30) 25 A788 n789 c790 l787 :: own k30 30 B794 m795 d796 s.1 :: zone Z780 wz781 :: L) w) ⟨hA.sub _ rfl, hS⟩ ?_
      intro N1223 s1223 o1223 hF N1223_ T1223_ ac w hLab
      obtain ⟨l1213, x1214⟩ := s1223
      replace hF : law09_MergeKeeps_l2 l1213 x1214 = some o1223 := hF
      unfold law09_MergeKeeps_l2 at hF
      try dsimp only at hLab
      obtain ⟨hA, hS⟩ := hLab
      refine wp_seq_k fun K1225 hK1225 => ?_
      refine wp_seq_k fun K1226 hK1226 => ?_
      refine wp_reg ?_
      refine x_move hA (fun ac hA => ?_) rfl rfl rfl rfl rfl
      refine x_move hA (fun ac hA => ?_) rfl rfl rfl rfl rfl
      refine x_len Try.underlying25 (hS.rd 2 rfl).2.1 hA (fun ac hA => ?_) rfl rfl rfl rfl rfl
      refine x_val hA (r_ltI rfl (hA.ev rfl) (hA.ev rfl)) (fun ac hA => ?_) rfl rfl rfl
      refine wpList_nil ?_
      refine hK1226 _ _ ?_
      refine c_if hA rfl (fun hb1227 => ?_) fun hb1227 => ?_
      · replace hF := ift hb1227 hF
        refine wp_skip ?_
        refine hK1225 _ _ ?_
        refine wp_seq_k fun K1228 hK1228 => ?_
        refine wp_block_k fun Kx1229 hKx1229 => ?_
        refine wp_reg ?_
        refine x_move hA (fun ac hA => ?_) rfl rfl rfl rfl rfl
        refine x_move hA (fun ac hA => ?_) rfl rfl rfl rfl rfl
        obtain ⟨x1230, h1231, hF⟩ := bnd hF
        refine x_ia Try.underlying25 sz30 (hS.rd 2 rfl) h1231 hA (fun ac hA => ?_) rfl rfl rfl rfl rfl rfl
        refine x_fae fa30_3 hA (fun ac hA => ?_) rfl rfl rfl rfl rfl
        refine x_sto (z' := (⟨x1230.f0, x1230.f1, x1230.f2, [120], x1230.f4⟩ : S30)) (off := 3) (vs := [str [120]]) 2 sz9 hA hS rfl (at_some h1231).2.2 (fun c h => by cases h; rfl) (fun  ac w hS hA => ?_) rfl rfl rfl rfl rfl rfl rfl rfl
        refine wpList_nil ?_
        refine hKx1229 _ _ ?_
        refine hK1228 _ _ ?_
        refine wp_reg ?_
        refine x_move hA (fun ac hA => ?_) rfl rfl rfl rfl rfl
        refine x_val hA (r_add rfl (hA.ev rfl) (hA.ev rfl)) (fun ac hA => ?_) rfl rfl rfl
        refine x_assign hA (fun ac hA => ?_) rfl rfl rfl rfl rfl
        refine wpList_nil ?_
        replace hS := hS.pk 3
        replace hS := hS.pk 1
        replace hS := hS.pk 3
        replace hS := hS.pk 3
        cases hF
        exact ⟨_, N1223_ _ rfl, hA.sub _ rfl, hS⟩
      replace hF := iff' hb1227 hF
      refine wp_exit ?_
      replace hS := hS.drop 2
      cases hF
      exact hx1223_2 (T1223_ _ rfl) ac w (hA.sub _ rfl) hS
    obtain ⟨t1393, hl1393, hF⟩ := bnd hF
    have hx1393_0 : ∀ (l1386 : (List (List S30))) (l1390 : (List (List S30))), (l1386, l1390) = t1393 → ∀ (Z1383 : Nat → Prop) (wz1384 : World) (A1387 : Option Addr) (n1388 : Nat) (c1389 : Nat) (A1391 : Option Addr) (n1392 : Nat) (c1393 : Nat) (h1385 : Sub Z wz Z1383 wz1384) (ac : Act) (w : World), FR 99 [] ac [(3, .slice A1387 n1388 c1389), (4, .slice A1391 n1392 c1393)] → SH r (own (kM Z1383 wz1384 k30) 25 A1387 n1388 c1389 l1386 :: own (kM Z1383 wz1384 k30) 25 A1391 n1392 c1393 l1390 :: zone Z1383 wz1384 :: L) w → Kx568 ac w := by
      intro l1386 l1390 ht Z1383 wz1384 A1387 n1388 c1389 A1391 n1392 c1393 h1385 ac w hA hS
      subst ht
      replace hF : law09_MergeKeeps_x3_0 l1386 l1390 = some y := hF
      unfold law09_MergeKeeps_x3_0 at hF
      exact hb1 l1386 l1390 hF Z1383 wz1384 A1387 n1388 c1389 A1391 n1392 c1393 h1385 ac w (hA.sub _ rfl) hS
    replace hS := SH.nil_own (d := (kM Z115 wz116 k30)) (e := 25) hS
    replace hS := SH.nil_own (d := (kM Z115 wz116 k30)) (e := 25) hS
    replace hS := hS.pk 2
    replace hS := hS.pk 1
    replace hS := hS.pk 2
    refine wp_loop_fn hl1393 (fun s ac w => ∃ (Z1309 : Nat → Prop) (wz1310 : World) (A1314 : Option Addr) (n1315 : Nat) (c1316 : Nat) (A1318 : Option Addr) (n1319 : Nat) (c1320 : Nat), Sub Z wz Z1309 wz1310 ∧ Imm Z1309 wz1310 (kM Z1309 wz1310 k30) A0 n0 c0 a0 ∧ FR 99 [] ac [(0, .slice A0 n0 c0), (3, .slice A1314 n1315 c1316), (4, .slice A1318 n1319 c1320), (5, .int .i64 s.2.2)] ∧ SH r (own (kM Z1309 wz1310 k30) 25 A1314 n1315 c1316 s.1 :: own (kM Z1309 wz1310 k30) 25 A1318 n1319 c1320 s.2.1 :: zone Z1309 wz1310 :: L) w) ⟨Z115, wz116, none, 0, 0, none, 0, 0, h117, h118, hA.sub _ rfl, hS⟩ ?_
    intro N1393 s1393 o1393 hF N1393_ T1393_ ac w hLab
    obtain ⟨l1313, l1317, x1321⟩ := s1393
    replace hF : law09_MergeKeeps_l3 a0 l1313 l1317 x1321 = some o1393 := hF
    unfold law09_MergeKeeps_l3 at hF
    try dsimp only at hLab
    obtain ⟨Z1309, wz1310, A1314, n1315, c1316, A1318, n1319, c1320, h1311, h1312, hA, hS⟩ := hLab
    refine wp_seq_k fun K1395 hK1395 => ?_
    refine wp_seq_k fun K1396 hK1396 => ?_
    refine wp_reg ?_
    refine x_move hA (fun ac hA => ?_) rfl rfl rfl rfl rfl
    refine x_move hA (fun ac hA => ?_) rfl rfl rfl rfl rfl
    refine x_len Try.underlying22 (hS.imm 2 h1312 rfl).2.1 hA (fun ac hA => ?_) rfl rfl rfl rfl rfl
    refine x_val hA (r_ltI rfl (hA.ev rfl) (hA.ev rfl)) (fun ac hA => ?_) rfl rfl rfl
    refine wpList_nil ?_
    refine hK1396 _ _ ?_
    refine c_if hA rfl (fun hb1397 => ?_) fun hb1397 => ?_
    · replace hF := ift hb1397 hF
      refine wp_skip ?_
      refine hK1395 _ _ ?_
      refine wp_seq_k fun K1398 hK1398 => ?_
      refine wp_block_k fun Kx1399 hKx1399 => ?_
      refine wp_seq_k fun K1400 hK1400 => ?_
      refine wp_reg ?_
      refine x_move hA (fun ac hA => ?_) rfl rfl rfl rfl rfl
      refine x_move hA (fun ac hA => ?_) rfl rfl rfl rfl rfl
      obtain ⟨x1401, h1402, hF⟩ := bnd hF
      refine x_ia Try.underlying22 sz25 (hS.imm 2 h1312 rfl) h1402 hA (fun ac hA => ?_) rfl rfl rfl rfl rfl rfl
      obtain ⟨cs, hV, hc1403⟩ := el (hS.imm 2 h1312 rfl) h1402
      obtain ⟨A1404, n1405, c1406, rfl, h1407⟩ := hV
      refine x_ld Try.underlying25 (hc1403 0 _ rfl) hA (fun ac hA => ?_) rfl rfl rfl rfl rfl rfl
      obtain ⟨y1408, h1409, hF⟩ := bnd hF
      refine x_call en15 hA (F_r06_Sort (L := own (kM Z1309 wz1310 k30) 25 A1314 n1315 c1316 l1313 :: own (kM Z1309 wz1310 k30) 25 A1318 n1319 c1320 l1317 :: zone Z1309 wz1310 :: L) x1401 A1404 n1405 c1406 h1409 (h1407.rdl 2 rfl) hS) (fun v ac w hR hA => ?_) rfl rfl rfl rfl rfl
      obtain ⟨B1410, m1411, d1412, rfl, hS⟩ := hR
      refine x_assign hA (fun ac hA => ?_) rfl rfl rfl rfl rfl
      refine wpList_nil ?_
      refine hK1400 _ _ ?_
      refine wp_seq_k fun K1413 hK1413 => ?_
      refine wp_reg ?_
      refine x_assign hA (fun ac hA => ?_) rfl rfl rfl rfl rfl
      refine wpList_nil ?_
      refine hK1413 _ _ ?_
      refine wp_seq_k fun K1414 hK1414 => ?_
      refine wp_reg ?_
      refine x_move hA (fun ac hA => ?_) rfl rfl rfl rfl rfl
      refine x_move hA (fun ac hA => ?_) rfl rfl rfl rfl rfl
      replace hS := SH.nil_own (d := k30) (e := 30) hS
      obtain ⟨h1415, hF⟩ := chk_some hF
      have hr := hS.rd 1 rfl
      refine x_app 0 inf30 Try.underlying25 hA hS hr.1 hr.2.1 h1415 rfl (fun A1416 n1417 c1418 ac w hS hA => ?_) rfl rfl rfl rfl rfl rfl rfl rfl rfl
      rw [List.nil_append] at hS
      refine x_assign hA (fun ac hA => ?_) rfl rfl rfl rfl rfl
      refine wpList_nil ?_
      refine hK1414 _ _ ?_
      refine wp_seq_k fun K1419 hK1419 => ?_
      refine wp_reg ?_
      refine x_move hA (fun ac hA => ?_) rfl rfl rfl rfl rfl
      refine x_move hA (fun ac hA => ?_) rfl rfl rfl rfl rfl
      replace hS := hS.pk 4
      replace hS := hS.pk 2
      obtain ⟨Z1420, wz1421, hS, h1422, sb1423⟩ := SH.freeze (n := m1411) (c := d1412) (A := B1410) hS
      have h1424 := Imm.kind (d' := (kM Z1420 wz1421 k30)) (Imm.sub h1312 sb1423) rfl (kM_sub sb1423)
      have h1425 := Imm.sub h1407 sb1423
      replace hS := hS.pk 2
      replace hS := hS.kind (d' := (kM Z1420 wz1421 k30)) rfl (kM_sub sb1423)
      replace hS := hS.pk 3
      replace hS := hS.kind (d' := (kM Z1420 wz1421 k30)) rfl (kM_sub sb1423)
      refine x_bsl (d := (kM Z1420 wz1421 k30)) (e := 25) (ps := #[(0, .slice B1410 m1411 d1412)]) (cells := [.slice B1410 m1411 d1412]) (xs := [y1408]) (fun w => by kernel_rfl) rfl ⟨[.slice B1410 m1411 d1412], _, rfl, ⟨_, _, _, rfl, h1422⟩, rfl⟩ hA hS (fun g1426 ac w hS hA => ?_) rfl rfl rfl rfl rfl rfl
      obtain ⟨h1427, hF⟩ := chk_some hF
      have hr := hS.rd 0 rfl
      refine x_app 1 inf25 Try.underlying22 hA hS hr.1 hr.2.1 h1427 rfl (fun A1428 n1429 c1430 ac w hS hA => ?_) rfl rfl rfl rfl rfl rfl rfl rfl rfl
      refine x_assign hA (fun ac hA => ?_) rfl rfl rfl rfl rfl
      refine wpList_nil ?_
      refine hK1419 _ _ ?_
      refine wp_reg ?_
      refine x_move hA (fun ac hA => ?_) rfl rfl rfl rfl rfl
      refine x_move hA (fun ac hA => ?_) rfl rfl rfl rfl rfl
      replace hS := hS.pk 3
      replace hS := hS.pk 4
      obtain ⟨Z1431, wz1432, hS, h1433, sb1434⟩ := SH.freeze (n := n1417) (c := c1418) (A := A1416) hS
      have h1435 := Imm.kind (d' := (kM Z1431 wz1432 k30)) (Imm.sub h1424 sb1434) rfl (kM_sub sb1434)
      have h1436 := Imm.sub h1425 sb1434
      have h1437 := Imm.sub h1422 sb1434
      replace hS := hS.pk 1
      replace hS := hS.kind (d' := (kM Z1431 wz1432 k30)) rfl (kM_sub sb1434)
      replace hS := hS.pk 2
      replace hS := hS.kind (d' := (kM Z1431 wz1432 k30)) rfl (kM_sub sb1434)
      replace hS := hS.pk 3
      replace hS := hS.kind (d' := (kM Z1431 wz1432 k30)) rfl (kM_sub sb1434)
      refine x_bsl (d := (kM Z1431 wz1432 k30)) (e := 25) (ps := #[(0, .slice A1416 n1417 c1418)]) (cells := [.slice A1416 n1417 c1418]) (xs := [y1408]) (fun w => by kernel_rfl) rfl ⟨[.slice A1416 n1417 c1418], _, rfl, ⟨_, _, _, rfl, h1433⟩, rfl⟩ hA hS (fun g1438 ac w hS hA => ?_) rfl rfl rfl rfl rfl rfl
      obtain ⟨h1439, hF⟩ := chk_some hF
      have hr := hS.rd 0 rfl
      refine x_app 1 inf25 Try.underlying22 hA hS hr.1 hr.2.1 h1439 rfl (fun A1440 n1441 c1442 ac w hS hA => ?_) rfl rfl rfl rfl rfl rfl rfl rfl rfl
      refine x_assign hA (fun ac hA => ?_) rfl rfl rfl rfl rfl
      refine wpList_nil ?_
      refine hKx1399 _ _ ?_
      refine hK1398 _ _ ?_
      refine wp_reg ?_
      refine x_move hA (fun ac hA => ?_) rfl rfl rfl rfl rfl
      refine x_val hA (r_add rfl (hA.ev rfl) (hA.ev rfl)) (fun ac hA => ?_) rfl rfl rfl
      refine x_assign hA (fun ac hA => ?_) rfl rfl rfl rfl rfl
      refine wpList_nil ?_
      replace hS := hS.drop 1
      replace hS := hS.drop 1
      cases hF
      exact ⟨_, N1393_ _ rfl, Z1431, wz1432, A1440, n1441, c1442, A1428, n1429, c1430, (Sub.trans (Sub.trans h1311 sb1423) sb1434), h1435, hA.sub _ rfl, hS⟩
    replace hF := iff' hb1397 hF
    refine wp_exit ?_
    cases hF
    exact hx1393_0 l1313 l1317 (T1393_ _ rfl) Z1309 wz1310 A1314 n1315 c1316 A1318 n1319 c1320 h1311 ac w (hA.sub _ rfl) hS
  refine wp_reg ?_
  obtain ⟨y1443, h1444, hF⟩ := bnd hF
  refine x_call en10 hA (F_law09_awake (L := L) h1444 hS) (fun v ac w hR hA => ?_) rfl rfl rfl rfl rfl
  obtain ⟨Z1445, wz1446, rfl, h1447, hS⟩ := hR
  have h1448 := Imm.kind (d' := (kM Z1445 wz1446 k30)) (Imm.sub ha0 h1447) rfl (kM_sub h1447)
  refine x_val hA (r_not rfl (hA.ev rfl)) (fun ac hA => ?_) rfl rfl rfl
  refine x_move hA (fun ac hA => ?_) rfl rfl rfl rfl rfl
  refine bcase (b := !y1443) (fun hb1449 => ?_) fun hb1449 => ?_
  · replace hF := ift hb1449 hF
    refine x_off hb1449 hA (fun ac hA => ?_) rfl rfl rfl rfl rfl
    refine x_off hb1449 hA (fun ac hA => ?_) rfl rfl rfl rfl rfl
    refine x_off hb1449 hA (fun ac hA => ?_) rfl rfl rfl rfl rfl
    refine x_pickt hb1449 hA (fun ac hA => ?_) rfl rfl rfl rfl rfl rfl
    refine x_move hA (fun ac hA => ?_) rfl rfl rfl rfl rfl
    refine x_off rfl hA (fun ac hA => ?_) rfl rfl rfl rfl rfl
    refine x_off rfl hA (fun ac hA => ?_) rfl rfl rfl rfl rfl
    refine x_off rfl hA (fun ac hA => ?_) rfl rfl rfl rfl rfl
    refine x_pickt rfl hA (fun ac hA => ?_) rfl rfl rfl rfl rfl rfl
    refine x_move hA (fun ac hA => ?_) rfl rfl rfl rfl rfl
    refine x_off rfl hA (fun ac hA => ?_) rfl rfl rfl rfl rfl
    refine x_off rfl hA (fun ac hA => ?_) rfl rfl rfl rfl rfl
    refine x_off rfl hA (fun ac hA => ?_) rfl rfl rfl rfl rfl
    refine x_pickt rfl hA (fun ac hA => ?_) rfl rfl rfl rfl rfl rfl
    refine wpList_nil ?_
    exact hj1 true hF Z1445 wz1446 h1447 h1448 ac w (hA.sub _ rfl) hS
  replace hF := iff' hb1449 hF
  refine x_on hb1449 hA ?_ rfl rfl rfl
  refine x_move hA (fun ac hA => ?_) rfl rfl rfl rfl rfl
  refine x_on hb1449 hA ?_ rfl rfl rfl
  obtain ⟨y1450, h1451, hF⟩ := bnd hF
  refine x_call en11 hA (F_law09_few (L := zone Z1445 wz1446 :: L) a0 A0 n0 c0 h1451 0 rfl (h1448.rdl 0 rfl) hS) (fun v ac w hR hA => ?_) rfl rfl rfl rfl rfl
  obtain ⟨rfl, hS⟩ := hR
  refine x_on hb1449 hA ?_ rfl rfl rfl
  refine x_val hA (r_not rfl (hA.ev rfl)) (fun ac hA => ?_) rfl rfl rfl
  refine x_pickf hb1449 hA (fun ac hA => ?_) rfl rfl rfl rfl rfl rfl
  refine x_move hA (fun ac hA => ?_) rfl rfl rfl rfl rfl
  refine bcase (b := !y1450) (fun hb1452 => ?_) fun hb1452 => ?_
  · replace hF := ift hb1452 hF
    refine x_off hb1452 hA (fun ac hA => ?_) rfl rfl rfl rfl rfl
    refine x_off hb1452 hA (fun ac hA => ?_) rfl rfl rfl rfl rfl
    refine x_off hb1452 hA (fun ac hA => ?_) rfl rfl rfl rfl rfl
    refine x_pickt hb1452 hA (fun ac hA => ?_) rfl rfl rfl rfl rfl rfl
    refine x_move hA (fun ac hA => ?_) rfl rfl rfl rfl rfl
    refine x_off rfl hA (fun ac hA => ?_) rfl rfl rfl rfl rfl
    refine x_off rfl hA (fun ac hA => ?_) rfl rfl rfl rfl rfl
    refine x_off rfl hA (fun ac hA => ?_) rfl rfl rfl rfl rfl
    refine x_pickt rfl hA (fun ac hA => ?_) rfl rfl rfl rfl rfl rfl
    refine wpList_nil ?_
    exact hj1 true hF Z1445 wz1446 h1447 h1448 ac w (hA.sub _ rfl) hS
  replace hF := iff' hb1452 hF
  refine x_on hb1452 hA ?_ rfl rfl rfl
  refine x_move hA (fun ac hA => ?_) rfl rfl rfl rfl rfl
  refine x_on hb1452 hA ?_ rfl rfl rfl
  refine x_len Try.underlying22 (hS.imm 0 h1448 rfl).2.1 hA (fun ac hA => ?_) rfl rfl rfl rfl rfl
  refine x_on hb1452 hA ?_ rfl rfl rfl
  refine x_val hA (r_ltI rfl (hA.ev rfl) (hA.ev rfl)) (fun ac hA => ?_) rfl rfl rfl
  refine x_pickf hb1452 hA (fun ac hA => ?_) rfl rfl rfl rfl rfl rfl
  refine x_move hA (fun ac hA => ?_) rfl rfl rfl rfl rfl
  refine bcase (b := decide ((a0.length : Int) < 1)) (fun hb1453 => ?_) fun hb1453 => ?_
  · replace hF := ift hb1453 hF
    refine x_off hb1453 hA (fun ac hA => ?_) rfl rfl rfl rfl rfl
    refine x_off hb1453 hA (fun ac hA => ?_) rfl rfl rfl rfl rfl
    refine x_off hb1453 hA (fun ac hA => ?_) rfl rfl rfl rfl rfl
    refine x_pickt hb1453 hA (fun ac hA => ?_) rfl rfl rfl rfl rfl rfl
    refine wpList_nil ?_
    exact hj1 true hF Z1445 wz1446 h1447 h1448 ac w (hA.sub _ rfl) hS
  replace hF := iff' hb1453 hF
  refine x_on hb1453 hA ?_ rfl rfl rfl
  refine x_move hA (fun ac hA => ?_) rfl rfl rfl rfl rfl
  refine x_on hb1453 hA ?_ rfl rfl rfl
  refine x_len Try.underlying22 (hS.imm 0 h1448 rfl).2.1 hA (fun ac hA => ?_) rfl rfl rfl rfl rfl
  refine x_on hb1453 hA ?_ rfl rfl rfl
  refine x_val hA (r_gtI rfl (hA.ev rfl) (hA.ev rfl)) (fun ac hA => ?_) rfl rfl rfl
  refine x_pickf hb1453 hA (fun ac hA => ?_) rfl rfl rfl rfl rfl rfl
  refine wpList_nil ?_
  exact hj1 (decide (16 < (a0.length : Int))) hF Z1445 wz1446 h1447 h1448 ac w (hA.sub _ rfl) hS
end Go.Proofs.Ytpanacifejpjhaa.M
