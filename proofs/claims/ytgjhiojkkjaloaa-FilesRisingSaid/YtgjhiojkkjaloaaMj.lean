/- The calls come to the plain functions. -/
import Derived.Test.YtgjhiojkkjaloaaMh
import Derived.Test.YtgjhiojkkjaloaaDj
namespace Go.Proofs.Ytgjhiojkkjaloaa.M
open Go Go.RowKit Go.Proofs.Ytgjhiojkkjaloaa.E
set_option linter.unusedVariables false
set_option linter.unusedSimpArgs false

set_option maxHeartbeats 4000000 in
theorem F_law05_FilesRising {r : World} {L : List HP} {w : World} {Z : Nat → Prop} {wz : World} (a0 : (List S45)) (A0 : Option Addr) (n0 : Nat) (c0 : Nat) {y : (Bool)} (hF : law05_FilesRising a0 = some y) (qz : Nat) (hZ : L[qz]? = some (zone Z wz)) (ha0 : RdL L (kz45 Z wz) A0 n0 c0 a0) (hS : SH r (L) w) :
    Ret Try.prog 6 #[.slice A0 n0 c0] w fun v w' => v = .bool y ∧ SH r (L) w' := by
  refine enter Try.func6 rfl Try.ntmps6 [(0, .slice A0 n0 c0)] rfl (by simp) ?_
  intro ac hA Qf hQ hQn
  unfold law05_FilesRising at hF
  refine wp_seq_k fun K101 hK101 => ?_
  refine wp_reg ?_
  refine x_assign hA (fun ac hA => ?_) rfl rfl rfl rfl rfl
  refine wpList_nil ?_
  refine hK101 _ _ ?_
  refine wp_seq_k fun K102 hK102 => ?_
  refine wp_seq_k fun K103 hK103 => ?_
  refine wp_reg ?_
  obtain ⟨y104, h105, hF⟩ := bnd hF
  refine x_call en10 hA (F_law05_awake (L := L) h105 hS) (fun v ac w hR hA => ?_) rfl rfl rfl rfl rfl
  obtain ⟨rfl, hS⟩ := hR
  refine x_val hA (r_not rfl (hA.ev rfl)) (fun ac hA => ?_) rfl rfl rfl
  refine wpList_nil ?_
  refine hK103 _ _ ?_
  refine c_if hA rfl (fun hb106 => ?_) fun hb106 => ?_
  · replace hF := ift hb106 hF
    refine wp_seq_k fun K107 hK107 => ?_
    refine wp_reg ?_
    refine x_assign hA (fun ac hA => ?_) rfl rfl rfl rfl rfl
    refine wpList_nil ?_
    refine hK107 _ _ ?_
    refine wp_ret ?_
    cases hF
    refine hQ _ _ ?_
    refine lv Try.results6 hA rfl ?_
    exact ⟨rfl, hS⟩
  replace hF := iff' hb106 hF
  refine wp_skip ?_
  refine hK102 _ _ ?_
  refine wp_seq_k fun K108 hK108 => ?_
  refine wp_reg ?_
  obtain ⟨y109, h110, hF⟩ := bnd hF
  refine x_call en11 hA (F_files_New (L := L) 65536 h110 hS) (fun v ac w hR hA => ?_) rfl rfl rfl rfl rfl
  obtain ⟨p111, rfl, hS⟩ := hR
  refine x_move hA (fun ac hA => ?_) rfl rfl rfl rfl rfl
  refine x_val hA (r_extract rfl (hA.ev rfl) rfl) (fun ac hA => ?_) rfl rfl rfl
  refine x_val hA (r_extract rfl (hA.ev rfl) rfl) (fun ac hA => ?_) rfl rfl rfl
  refine x_assign hA (fun ac hA => ?_) rfl rfl rfl rfl rfl
  refine x_assign hA (fun ac hA => ?_) rfl rfl rfl rfl rfl
  refine wpList_nil ?_
  refine hK108 _ _ ?_
  refine wp_seq_k fun K112 hK112 => ?_
  refine wp_seq_k fun K10138 hK10138 => ?_
  refine wp_reg ?_
  refine x_assign hA (fun ac hA => ?_) rfl rfl rfl rfl rfl
  refine wpList_nil ?_
  refine hK10138 _ _ ?_
  refine wp_block_k fun Kx10139 hKx10139 => ?_
  have hb1 : law05_FilesRising_b1 = some y → ∀ (ac : Act) (w : World), FR 85 [] ac [] → SH r (L) w → Kx10139 ac w := by
    intro hF ac w hA hS
    unfold law05_FilesRising_b1 at hF
    refine hKx10139 _ _ ?_
    refine hK112 _ _ ?_
    refine wp_seq_k fun K15151 hK15151 => ?_
    refine wp_reg ?_
    refine x_assign hA (fun ac hA => ?_) rfl rfl rfl rfl rfl
    refine wpList_nil ?_
    refine hK15151 _ _ ?_
    refine wp_ret ?_
    cases hF
    refine hQ _ _ ?_
    refine lv Try.results6 hA rfl ?_
    exact ⟨rfl, hS⟩
  obtain ⟨t18493, hl18493, hF⟩ := bnd hF
  have hR18493 := hF
  have hx18493_0 : (.inl ()) = t18493 → ∀ (ac : Act) (w : World), FR 85 [] ac [] → SH r (L) w → Kx10139 ac w := by
    intro ht ac w hA hS
    subst ht
    replace hF : law05_FilesRising_x1_0 = some y := hF
    unfold law05_FilesRising_x1_0 at hF
    exact hb1 hF ac w (hA.sub _ rfl) hS
  refine wp_loop_fn hl18493 (fun s ac w => FR 85 [] ac [(0, .slice A0 n0 c0), (3, .pointer p111), (5, .int .i64 s.2)] ∧ SH r (optP (obj68) p111 s.1 :: L) w) ⟨hA.sub _ rfl, hS⟩ ?_
  intro N18493 s18493 o18493 hF N18493_ T18493_ ac w hLab
  obtain ⟨o16822, x16823⟩ := s18493
  replace hF : law05_FilesRising_l1 a0 o16822 x16823 = some o18493 := hF
  unfold law05_FilesRising_l1 at hF
  try dsimp only at hLab
  obtain ⟨hA, hS⟩ := hLab
  refine wp_seq_k fun K18495 hK18495 => ?_
  refine wp_seq_k fun K18496 hK18496 => ?_
  have hj1 : ∀ (b18498 : Bool), law05_FilesRising_j1 a0 o16822 x16823 b18498 = some o18493 → ∀ (ac : Act) (w : World), FR 85 [] ac [(0, .slice A0 n0 c0), (3, .pointer p111), (5, .int .i64 x16823), (23, .bool b18498)] → SH r (optP (obj68) p111 o16822 :: L) w → K18496 ac w := by
    intro b18498 hF ac w hA hS
    unfold law05_FilesRising_j1 at hF
    refine hK18496 _ _ ?_
    refine c_if hA rfl (fun hb18499 => ?_) fun hb18499 => ?_
    · replace hF := ift hb18499 hF
      refine wp_skip ?_
      refine hK18495 _ _ ?_
      refine wp_seq_k fun K18500 hK18500 => ?_
      refine wp_block_k fun Kx19330 hKx19330 => ?_
      refine wp_seq_k fun K19745 hK19745 => ?_
      refine wp_reg ?_
      refine x_move hA (fun ac hA => ?_) rfl rfl rfl rfl rfl
      refine x_move hA (fun ac hA => ?_) rfl rfl rfl rfl rfl
      obtain ⟨x19746, h19747, hF⟩ := bnd hF
      refine x_ia Try.underlying42 sz45 (hS.rdl 1 ha0 rfl) h19747 hA (fun ac hA => ?_) rfl rfl rfl rfl rfl rfl
      obtain ⟨cs, hV, hc19748⟩ := el (hS.rdl 1 ha0 rfl) h19747
      obtain ⟨A19749, n19750, c19751, A19753, n19754, c19755, rfl, h19752, h19756⟩ := hV
      refine x_lda (cs := [.int .u8 x19746.f0, .int .u8 x19746.f1, .int .u8 x19746.f2, str x19746.f3, .slice A19749 n19750 c19751, .int .i64 x19746.f5, .slice A19753 n19754 c19755]) Try.underlying45 sz45 (fun j u h => by rw [ea_add]; exact hc19748 _ _ h) hA (fun ac hA => ?_) rfl rfl rfl rfl rfl rfl
      obtain ⟨y19757, h19758, hF⟩ := bnd hF
      refine x_call en20 hA (F_law05_Act_names (L := optP (obj68) p111 o16822 :: L) x19746 A19749 n19750 c19751 A19753 n19754 c19755 h19758 (qz + 1) hZ h19752 h19756 hS) (fun v ac w hR hA => ?_) rfl rfl rfl rfl rfl
      obtain ⟨rfl, hS⟩ := hR
      refine x_move hA (fun ac hA => ?_) rfl rfl rfl rfl rfl
      refine x_val hA (r_extract rfl (hA.ev rfl) rfl) (fun ac hA => ?_) rfl rfl rfl
      refine x_val hA (r_extract rfl (hA.ev rfl) rfl) (fun ac hA => ?_) rfl rfl rfl
      refine x_assign hA (fun ac hA => ?_) rfl rfl rfl rfl rfl
      refine x_assign hA (fun ac hA => ?_) rfl rfl rfl rfl rfl
      refine wpList_nil ?_
      refine hK19745 _ _ ?_
      refine wp_seq_k fun K19759 hK19759 => ?_
      refine wp_seq_k fun K19807 hK19807 => ?_
      refine wp_reg ?_
      refine x_move hA (fun ac hA => ?_) rfl rfl rfl rfl rfl
      refine x_move hA (fun ac hA => ?_) rfl rfl rfl rfl rfl
      refine x_ia Try.underlying42 sz45 (hS.rdl 1 ha0 rfl) h19747 hA (fun ac hA => ?_) rfl rfl rfl rfl rfl rfl
      refine x_fae (m := x16823.toNat * 7) fa45_0 hA (fun ac hA => ?_) rfl rfl rfl rfl rfl
      obtain ⟨cs, hV, hc19808⟩ := el (hS.rdl 1 ha0 rfl) h19747
      obtain ⟨A19809, n19810, c19811, A19813, n19814, c19815, rfl, h19812, h19816⟩ := hV
      refine x_ld Try.underlying5 (hc19808 0 _ rfl) hA (fun ac hA => ?_) rfl rfl rfl rfl rfl rfl
      obtain ⟨x19817, h19818, hF⟩ := ltt_ hF
      refine x_val (v := .int .u8 x19817) hA (rv_i h19818 (r_rem rfl (hA.ev rfl) (hA.ev rfl) (by decide))) (fun ac hA => ?_) rfl rfl rfl
      refine wpList_nil ?_
      refine hK19807 _ _ ?_
      refine wp_block_k fun Kx19819 hKx19819 => ?_
      have hb2 : ∀ (o19836 : (Option S68)), law05_FilesRising_b2 x16823 o19836 = some o18493 → ∀ (ac : Act) (w : World), FR 85 [] ac [(0, .slice A0 n0 c0), (3, .pointer p111), (5, .int .i64 x16823)] → SH r (optP (obj68) p111 o19836 :: L) w → Kx19819 ac w := by
        intro o19836 hF ac w hA hS
        unfold law05_FilesRising_b2 at hF
        refine hKx19819 _ _ ?_
        refine hK19759 _ _ ?_
        refine wp_seq_k fun K19837 hK19837 => ?_
        refine wp_reg ?_
        refine x_move hA (fun ac hA => ?_) rfl rfl rfl rfl rfl
        obtain ⟨y19838, h19839, hF⟩ := bnd hF
        refine x_call en14 hA (F_files_Store_List (L := L) o19836 p111 h19839 hS) (fun v ac w hR hA => ?_) rfl rfl rfl rfl rfl
        obtain ⟨B19840, m19841, d19842, rfl, hS⟩ := hR
        refine x_assign hA (fun ac hA => ?_) rfl rfl rfl rfl rfl
        refine wpList_nil ?_
        refine hK19837 _ _ ?_
        refine wp_seq_k fun K19843 hK19843 => ?_
        refine wp_reg ?_
        refine x_assign hA (fun ac hA => ?_) rfl rfl rfl rfl rfl
        refine wpList_nil ?_
        refine hK19843 _ _ ?_
        refine wp_block_k fun Kx19844 hKx19844 => ?_
        have hb3 : law05_FilesRising_b3 x16823 o19836 = some o18493 → ∀ (ac : Act) (w : World), FR 85 [] ac [(0, .slice A0 n0 c0), (3, .pointer p111), (5, .int .i64 x16823)] → SH r (optP (obj68) p111 o19836 :: L) w → Kx19844 ac w := by
          intro hF ac w hA hS
          unfold law05_FilesRising_b3 at hF
          refine hKx19844 _ _ ?_
          refine hKx19330 _ _ ?_
          refine hK18500 _ _ ?_
          refine wp_reg ?_
          refine x_move hA (fun ac hA => ?_) rfl rfl rfl rfl rfl
          obtain ⟨x19993, h19994, hF⟩ := ltt_ hF
          refine x_val (v := .int .i64 x19993) hA (rv_i h19994 (r_add rfl (hA.ev rfl) (hA.ev rfl))) (fun ac hA => ?_) rfl rfl rfl
          refine x_assign hA (fun ac hA => ?_) rfl rfl rfl rfl rfl
          refine wpList_nil ?_
          cases hF
          exact ⟨_, N18493_ _ rfl, hA.sub _ rfl, hS⟩
        obtain ⟨t20093, hl20093, hF⟩ := bnd hF
        have hR20093 := hF
        have hx20093_3 : (.inl ()) = t20093 → ∀ (ac : Act) (w : World), FR 85 [] ac [(0, .slice A0 n0 c0), (3, .pointer p111), (5, .int .i64 x16823)] → SH r (optP (obj68) p111 o19836 :: L) w → Kx19844 ac w := by
          intro ht ac w hA hS
          subst ht
          replace hF : law05_FilesRising_x2_3 x16823 o19836 = some o18493 := hF
          unfold law05_FilesRising_x2_3 at hF
          exact hb3 hF ac w (hA.sub _ rfl) hS
        replace hS := hS.pk 1
        refine wp_loop_fn hl20093 (fun s ac w => FR 85 [] ac [(0, .slice A0 n0 c0), (3, .pointer p111), (5, .int .i64 x16823), (8, .slice B19840 m19841 d19842), (9, .int .i64 s)] ∧ SH r (optP (obj68) p111 o19836 :: own kS 9 B19840 m19841 d19842 y19838 :: L) w) ⟨hA.sub _ rfl, hS⟩ ?_
        intro N20093 s20093 o20093 hF N20093_ T20093_ ac w hLab
        obtain ⟨x20044, rfl⟩ : ∃ q, q = s20093 := ⟨_, rfl⟩
        replace hF : law05_FilesRising_l2 y19838 x20044 = some o20093 := hF
        unfold law05_FilesRising_l2 at hF
        try dsimp only at hLab
        obtain ⟨hA, hS⟩ := hLab
        refine wp_seq_k fun K20095 hK20095 => ?_
        refine wp_seq_k fun K20096 hK20096 => ?_
        refine wp_reg ?_
        refine x_move hA (fun ac hA => ?_) rfl rfl rfl rfl rfl
        refine x_move hA (fun ac hA => ?_) rfl rfl rfl rfl rfl
        refine x_len Try.underlying31 (hS.rd 1 rfl).2.1 hA (fun ac hA => ?_) rfl rfl rfl rfl rfl
        refine x_val hA (r_ltI rfl (hA.ev rfl) (hA.ev rfl)) (fun ac hA => ?_) rfl rfl rfl
        refine wpList_nil ?_
        refine hK20096 _ _ ?_
        refine c_if hA rfl (fun hb20097 => ?_) fun hb20097 => ?_
        · replace hF := ift hb20097 hF
          refine wp_skip ?_
          refine hK20095 _ _ ?_
          refine wp_seq_k fun K20098 hK20098 => ?_
          refine wp_block_k fun Kx20099 hKx20099 => ?_
          refine wp_seq_k fun K20100 hK20100 => ?_
          have hj2 : ∀ (b20119 : Bool), law05_FilesRising_j2 x20044 b20119 = some o20093 → ∀ (ac : Act) (w : World), FR 85 [] ac [(0, .slice A0 n0 c0), (3, .pointer p111), (5, .int .i64 x16823), (8, .slice B19840 m19841 d19842), (9, .int .i64 x20044), (84, .bool b20119)] → SH r (optP (obj68) p111 o19836 :: own kS 9 B19840 m19841 d19842 y19838 :: L) w → K20100 ac w := by
            intro b20119 hF ac w hA hS
            unfold law05_FilesRising_j2 at hF
            refine hK20100 _ _ ?_
            refine c_if hA rfl (fun hb20120 => ?_) fun hb20120 => ?_
            · replace hF := ift hb20120 hF
              refine wp_seq_k fun K20121 hK20121 => ?_
              refine wp_reg ?_
              refine x_assign hA (fun ac hA => ?_) rfl rfl rfl rfl rfl
              refine wpList_nil ?_
              refine hK20121 _ _ ?_
              refine wp_ret ?_
              replace hS := hS.drop 0
              replace hS := hS.drop 0
              cases hF
              have ht := T20093_ _ rfl
              subst ht
              replace hF := hR20093
              replace hF : some (.inr (.inr false)) = some o18493 := hF
              cases hF
              have ht := T18493_ _ rfl
              subst ht
              replace hF := hR18493
              replace hF : some false = some y := hF
              cases hF
              refine hQ _ _ ?_
              refine lv Try.results6 hA rfl ?_
              exact ⟨rfl, hS⟩
            replace hF := iff' hb20120 hF
            refine wp_skip ?_
            refine hKx20099 _ _ ?_
            refine hK20098 _ _ ?_
            refine wp_reg ?_
            refine x_move hA (fun ac hA => ?_) rfl rfl rfl rfl rfl
            obtain ⟨x20122, h20123, hF⟩ := ltt_ hF
            refine x_val (v := .int .i64 x20122) hA (rv_i h20123 (r_add rfl (hA.ev rfl) (hA.ev rfl))) (fun ac hA => ?_) rfl rfl rfl
            refine x_assign hA (fun ac hA => ?_) rfl rfl rfl rfl rfl
            refine wpList_nil ?_
            cases hF
            exact ⟨_, N20093_ _ rfl, hA.sub _ rfl, hS⟩
          refine wp_draw [0, 1, 3, 7, 7, 23, 63, 127, 7, 7, 775, 1799, 4095, 8191, 16383, 32767, 32767, 131071, 262143, 524287, 1048575, 2097151] [19] rfl hA hS (by kernel_rfl) (by kernel_rfl) (by kernel_rfl) (by kernel_rfl) fun w hS => ?_
          refine bcase (b := decide (0 < x20044)) (fun hb20124 => ?_) fun hb20124 => ?_
          · replace hF := ift hb20124 hF
            obtain ⟨x20125, h20126, hF⟩ := ltt_ hF
            obtain ⟨x20127, h20128, hF⟩ := bnd hF
            obtain ⟨cs, hV, hc20129⟩ := el (hS.rd 1 rfl) h20128
            obtain rfl := hV
            obtain ⟨x20130, h20131, hF⟩ := bnd hF
            obtain ⟨cs, hV, hc20132⟩ := el (hS.rd 1 rfl) h20131
            obtain rfl := hV
            refine bcase (b := !Op.bytesLess x20127 x20130) (fun hb20133 => ?_) fun hb20133 => ?_
            · replace hF := ift hb20133 hF
              refine ⟨[(0, .int .i64 x20044), (1, .bool (decide (0 < x20044))), (2, .bool (decide (0 < x20044))), (3, .slice B19840 m19841 d19842), (4, .int .i64 x20044), (5, .int .i64 x20125), (6, .pointer (some (ea B19840 (x20125.toNat * 1)))), (7, str x20127), (8, .slice B19840 m19841 d19842), (9, .int .i64 x20044), (10, .pointer (some (ea B19840 (x20044.toNat * 1)))), (11, str x20130), (12, .bool (!Op.bytesLess x20127 x20130)), (13, .bool (!Op.bytesLess x20127 x20130)), (14, .bool (!Op.bytesLess x20127 x20130)), (15, undef), (16, undef), (17, undef), (18, undef)], ?_⟩
              refine dEff [0, 1, 2, 3, 4, 5, 6, 7, 8, 9, 10, 11, 12, 13, 14, 15, 16, 17, 18] [19] (by kernel_rfl) ⟨pu rfl rfl [(9, .int .i64 x20044)] (fun ac hA => y_move hA rfl rfl) rfl rfl, pu rfl rfl [(63, .int .i64 x20044)] (fun ac hA => r_gtI rfl (hA.ev rfl) (hA.ev rfl)) rfl rfl, pu rfl rfl [(64, .bool (decide (0 < x20044)))] (fun ac hA => y_move hA rfl rfl) rfl rfl, puOn rfl rfl rfl rfl [(8, .slice B19840 m19841 d19842), (65, .bool (decide (0 < x20044)))] rfl hb20124 (fun ac hA => y_move hA rfl rfl) rfl, puOn rfl rfl rfl rfl [(9, .int .i64 x20044), (65, .bool (decide (0 < x20044)))] rfl hb20124 (fun ac hA => y_move hA rfl rfl) rfl, puOn rfl rfl rfl rfl [(65, .bool (decide (0 < x20044))), (67, .int .i64 x20044)] rfl hb20124 (fun ac hA => (rv_i h20126 (r_sub rfl (hA.ev rfl) (hA.ev rfl)) : RunV _ _ _ _ (.int .i64 x20125))) rfl, puOn rfl rfl rfl rfl [(65, .bool (decide (0 < x20044))), (66, .slice B19840 m19841 d19842), (68, .int .i64 x20125)] rfl hb20124 (fun ac hA => y_ia Try.underlying31 sz9 (hS.rd 1 rfl) h20128 hA rfl rfl rfl) rfl, puOn rfl rfl rfl rfl [(65, .bool (decide (0 < x20044))), (69, .pointer (some (ea B19840 (x20125.toNat * 1))))] rfl hb20124 (fun ac hA => y_ld Try.underlying9 (hc20129 0 _ rfl) hA rfl rfl rfl) rfl, puOn rfl rfl rfl rfl [(8, .slice B19840 m19841 d19842), (65, .bool (decide (0 < x20044)))] rfl hb20124 (fun ac hA => y_move hA rfl rfl) rfl, puOn rfl rfl rfl rfl [(9, .int .i64 x20044), (65, .bool (decide (0 < x20044)))] rfl hb20124 (fun ac hA => y_move hA rfl rfl) rfl, puOn rfl rfl rfl rfl [(65, .bool (decide (0 < x20044))), (71, .slice B19840 m19841 d19842), (72, .int .i64 x20044)] rfl hb20124 (fun ac hA => y_ia Try.underlying31 sz9 (hS.rd 1 rfl) h20131 hA rfl rfl rfl) rfl, puOn rfl rfl rfl rfl [(65, .bool (decide (0 < x20044))), (73, .pointer (some (ea B19840 (x20044.toNat * 1))))] rfl hb20124 (fun ac hA => y_ld Try.underlying9 (hc20132 0 _ rfl) hA rfl rfl rfl) rfl, puOn rfl rfl rfl rfl [(65, .bool (decide (0 < x20044))), (70, str x20127), (74, str x20130)] rfl hb20124 (fun ac hA => r_geS rfl (hA.ev rfl) (hA.ev rfl)) rfl, pu rfl rfl [(65, .bool (decide (0 < x20044))), (75, .bool (!Op.bytesLess x20127 x20130))] (fun ac hA => y_pickt hb20124 hA rfl rfl rfl) rfl rfl, pu rfl rfl [(76, .bool (!Op.bytesLess x20127 x20130))] (fun ac hA => y_move hA rfl rfl) rfl rfl, puOff rfl rfl rfl rfl [(8, .slice B19840 m19841 d19842), (77, .bool (!Op.bytesLess x20127 x20130))] rfl hb20133 rfl, puOff rfl rfl rfl rfl [(9, .int .i64 x20044), (77, .bool (!Op.bytesLess x20127 x20130))] rfl hb20133 rfl, puOff rfl rfl rfl rfl [(77, .bool (!Op.bytesLess x20127 x20130)), (78, undef), (79, undef)] rfl hb20133 rfl, puOff rfl rfl rfl rfl [(77, .bool (!Op.bytesLess x20127 x20130)), (80, undef)] rfl hb20133 rfl, trivial⟩ (by kernel_rfl) (by kernel_rfl) ⟨?_, trivial⟩
              refine efOff rfl rfl rfl [(77, .bool (!Op.bytesLess x20127 x20130)), (81, undef)] rfl [(20, undef), (21, .bool true)] hb20133 rfl ?_ rfl
              refine dEnd [20, 21] (by kernel_rfl) ⟨puOff rfl rfl rfl rfl [(77, .bool (!Op.bytesLess x20127 x20130)), (82, undef)] rfl hb20133 rfl, pu rfl rfl [(77, .bool (!Op.bytesLess x20127 x20130)), (83, undef)] (fun ac hA => y_pickt hb20133 hA rfl rfl rfl) rfl rfl, trivial⟩ ⟨by kernel_rfl, by kernel_rfl⟩ [(0, .slice A0 n0 c0), (3, .pointer p111), (5, .int .i64 x16823), (8, .slice B19840 m19841 d19842), (9, .int .i64 x20044), (66, .slice B19840 m19841 d19842), (67, .int .i64 x20044), (68, .int .i64 x20125), (70, str x20127), (71, .slice B19840 m19841 d19842), (72, .int .i64 x20044), (74, str x20130), (75, .bool (!Op.bytesLess x20127 x20130)), (84, .bool true)] rfl (fun ac hA => ?_)
              exact hj2 true hF ac w (hA.sub _ rfl) hS
            replace hF := iff' hb20133 hF
            obtain ⟨cs, hV, hc20134⟩ := el (hS.rd 1 rfl) h20131
            obtain rfl := hV
            refine ⟨[(0, .int .i64 x20044), (1, .bool (decide (0 < x20044))), (2, .bool (decide (0 < x20044))), (3, .slice B19840 m19841 d19842), (4, .int .i64 x20044), (5, .int .i64 x20125), (6, .pointer (some (ea B19840 (x20125.toNat * 1)))), (7, str x20127), (8, .slice B19840 m19841 d19842), (9, .int .i64 x20044), (10, .pointer (some (ea B19840 (x20044.toNat * 1)))), (11, str x20130), (12, .bool (!Op.bytesLess x20127 x20130)), (13, .bool (!Op.bytesLess x20127 x20130)), (14, .bool (!Op.bytesLess x20127 x20130)), (15, .slice B19840 m19841 d19842), (16, .int .i64 x20044), (17, .pointer (some (ea B19840 (x20044.toNat * 1)))), (18, str x20130)], ?_⟩
            refine dEff [0, 1, 2, 3, 4, 5, 6, 7, 8, 9, 10, 11, 12, 13, 14, 15, 16, 17, 18] [19] (by kernel_rfl) ⟨pu rfl rfl [(9, .int .i64 x20044)] (fun ac hA => y_move hA rfl rfl) rfl rfl, pu rfl rfl [(63, .int .i64 x20044)] (fun ac hA => r_gtI rfl (hA.ev rfl) (hA.ev rfl)) rfl rfl, pu rfl rfl [(64, .bool (decide (0 < x20044)))] (fun ac hA => y_move hA rfl rfl) rfl rfl, puOn rfl rfl rfl rfl [(8, .slice B19840 m19841 d19842), (65, .bool (decide (0 < x20044)))] rfl hb20124 (fun ac hA => y_move hA rfl rfl) rfl, puOn rfl rfl rfl rfl [(9, .int .i64 x20044), (65, .bool (decide (0 < x20044)))] rfl hb20124 (fun ac hA => y_move hA rfl rfl) rfl, puOn rfl rfl rfl rfl [(65, .bool (decide (0 < x20044))), (67, .int .i64 x20044)] rfl hb20124 (fun ac hA => (rv_i h20126 (r_sub rfl (hA.ev rfl) (hA.ev rfl)) : RunV _ _ _ _ (.int .i64 x20125))) rfl, puOn rfl rfl rfl rfl [(65, .bool (decide (0 < x20044))), (66, .slice B19840 m19841 d19842), (68, .int .i64 x20125)] rfl hb20124 (fun ac hA => y_ia Try.underlying31 sz9 (hS.rd 1 rfl) h20128 hA rfl rfl rfl) rfl, puOn rfl rfl rfl rfl [(65, .bool (decide (0 < x20044))), (69, .pointer (some (ea B19840 (x20125.toNat * 1))))] rfl hb20124 (fun ac hA => y_ld Try.underlying9 (hc20129 0 _ rfl) hA rfl rfl rfl) rfl, puOn rfl rfl rfl rfl [(8, .slice B19840 m19841 d19842), (65, .bool (decide (0 < x20044)))] rfl hb20124 (fun ac hA => y_move hA rfl rfl) rfl, puOn rfl rfl rfl rfl [(9, .int .i64 x20044), (65, .bool (decide (0 < x20044)))] rfl hb20124 (fun ac hA => y_move hA rfl rfl) rfl, puOn rfl rfl rfl rfl [(65, .bool (decide (0 < x20044))), (71, .slice B19840 m19841 d19842), (72, .int .i64 x20044)] rfl hb20124 (fun ac hA => y_ia Try.underlying31 sz9 (hS.rd 1 rfl) h20131 hA rfl rfl rfl) rfl, puOn rfl rfl rfl rfl [(65, .bool (decide (0 < x20044))), (73, .pointer (some (ea B19840 (x20044.toNat * 1))))] rfl hb20124 (fun ac hA => y_ld Try.underlying9 (hc20132 0 _ rfl) hA rfl rfl rfl) rfl, puOn rfl rfl rfl rfl [(65, .bool (decide (0 < x20044))), (70, str x20127), (74, str x20130)] rfl hb20124 (fun ac hA => r_geS rfl (hA.ev rfl) (hA.ev rfl)) rfl, pu rfl rfl [(65, .bool (decide (0 < x20044))), (75, .bool (!Op.bytesLess x20127 x20130))] (fun ac hA => y_pickt hb20124 hA rfl rfl rfl) rfl rfl, pu rfl rfl [(76, .bool (!Op.bytesLess x20127 x20130))] (fun ac hA => y_move hA rfl rfl) rfl rfl, puOn rfl rfl rfl rfl [(8, .slice B19840 m19841 d19842), (77, .bool (!Op.bytesLess x20127 x20130))] rfl hb20133 (fun ac hA => y_move hA rfl rfl) rfl, puOn rfl rfl rfl rfl [(9, .int .i64 x20044), (77, .bool (!Op.bytesLess x20127 x20130))] rfl hb20133 (fun ac hA => y_move hA rfl rfl) rfl, puOn rfl rfl rfl rfl [(77, .bool (!Op.bytesLess x20127 x20130)), (78, .slice B19840 m19841 d19842), (79, .int .i64 x20044)] rfl hb20133 (fun ac hA => y_ia Try.underlying31 sz9 (hS.rd 1 rfl) h20131 hA rfl rfl rfl) rfl, puOn rfl rfl rfl rfl [(77, .bool (!Op.bytesLess x20127 x20130)), (80, .pointer (some (ea B19840 (x20044.toNat * 1))))] rfl hb20133 (fun ac hA => y_ld Try.underlying9 (hc20134 0 _ rfl) hA rfl rfl rfl) rfl, trivial⟩ (by kernel_rfl) (by kernel_rfl) ⟨efOn rfl rfl rfl [(77, .bool (!Op.bytesLess x20127 x20130)), (81, str x20130)] rfl hb20133 (fun ac hA K hK => ?_) rfl, trivial⟩
            obtain ⟨y20135, h20136, hF⟩ := bnd hF
            refine z_call en21 hA (F_files_Form (L := optP (obj68) p111 o19836 :: own kS 9 B19840 m19841 d19842 y19838 :: L) x20130 h20136 hS) (fun v w hR => ?_) rfl rfl
            obtain ⟨rfl, hS⟩ := hR
            refine hK _ [(20, .bool (!y20135)), (21, .bool (!y20135))] _ rfl ?_
            refine dEnd [20, 21] (by kernel_rfl) ⟨puOn rfl rfl rfl rfl [(77, .bool (!Op.bytesLess x20127 x20130)), (82, .bool y20135)] rfl hb20133 (fun ac hA => r_not rfl (hA.ev rfl)) rfl, pu rfl rfl [(77, .bool (!Op.bytesLess x20127 x20130)), (83, .bool (!y20135))] (fun ac hA => y_pickf hb20133 hA rfl rfl rfl) rfl rfl, trivial⟩ ⟨by kernel_rfl, by kernel_rfl⟩ [(0, .slice A0 n0 c0), (3, .pointer p111), (5, .int .i64 x16823), (8, .slice B19840 m19841 d19842), (9, .int .i64 x20044), (66, .slice B19840 m19841 d19842), (67, .int .i64 x20044), (68, .int .i64 x20125), (70, str x20127), (71, .slice B19840 m19841 d19842), (72, .int .i64 x20044), (74, str x20130), (75, .bool (!Op.bytesLess x20127 x20130)), (78, .slice B19840 m19841 d19842), (79, .int .i64 x20044), (81, str x20130), (82, .bool y20135), (83, .bool (!y20135)), (84, .bool (!y20135))] rfl (fun ac hA => ?_)
            exact hj2 (!y20135) hF ac w (hA.sub _ rfl) hS
          replace hF := iff' hb20124 hF
          obtain ⟨x20137, h20138, hF⟩ := bnd hF
          obtain ⟨cs, hV, hc20139⟩ := el (hS.rd 1 rfl) h20138
          obtain rfl := hV
          refine ⟨[(0, .int .i64 x20044), (1, .bool (decide (0 < x20044))), (2, .bool (decide (0 < x20044))), (3, undef), (4, undef), (5, undef), (6, undef), (7, undef), (8, undef), (9, undef), (10, undef), (11, undef), (12, undef), (13, .bool false), (14, .bool false), (15, .slice B19840 m19841 d19842), (16, .int .i64 x20044), (17, .pointer (some (ea B19840 (x20044.toNat * 1)))), (18, str x20137)], ?_⟩
          refine dEff [0, 1, 2, 3, 4, 5, 6, 7, 8, 9, 10, 11, 12, 13, 14, 15, 16, 17, 18] [19] (by kernel_rfl) ⟨pu rfl rfl [(9, .int .i64 x20044)] (fun ac hA => y_move hA rfl rfl) rfl rfl, pu rfl rfl [(63, .int .i64 x20044)] (fun ac hA => r_gtI rfl (hA.ev rfl) (hA.ev rfl)) rfl rfl, pu rfl rfl [(64, .bool (decide (0 < x20044)))] (fun ac hA => y_move hA rfl rfl) rfl rfl, puOff rfl rfl rfl rfl [(8, .slice B19840 m19841 d19842), (65, .bool (decide (0 < x20044)))] rfl hb20124 rfl, puOff rfl rfl rfl rfl [(9, .int .i64 x20044), (65, .bool (decide (0 < x20044)))] rfl hb20124 rfl, puOff rfl rfl rfl rfl [(65, .bool (decide (0 < x20044))), (67, undef)] rfl hb20124 rfl, puOff rfl rfl rfl rfl [(65, .bool (decide (0 < x20044))), (66, undef), (68, undef)] rfl hb20124 rfl, puOff rfl rfl rfl rfl [(65, .bool (decide (0 < x20044))), (69, undef)] rfl hb20124 rfl, puOff rfl rfl rfl rfl [(8, .slice B19840 m19841 d19842), (65, .bool (decide (0 < x20044)))] rfl hb20124 rfl, puOff rfl rfl rfl rfl [(9, .int .i64 x20044), (65, .bool (decide (0 < x20044)))] rfl hb20124 rfl, puOff rfl rfl rfl rfl [(65, .bool (decide (0 < x20044))), (71, undef), (72, undef)] rfl hb20124 rfl, puOff rfl rfl rfl rfl [(65, .bool (decide (0 < x20044))), (73, undef)] rfl hb20124 rfl, puOff rfl rfl rfl rfl [(65, .bool (decide (0 < x20044))), (70, undef), (74, undef)] rfl hb20124 rfl, pu rfl rfl [(65, .bool (decide (0 < x20044))), (75, undef)] (fun ac hA => y_pickf hb20124 hA rfl rfl rfl) rfl rfl, pu rfl rfl [(76, .bool false)] (fun ac hA => y_move hA rfl rfl) rfl rfl, puOn rfl rfl rfl rfl [(8, .slice B19840 m19841 d19842), (77, .bool false)] rfl rfl (fun ac hA => y_move hA rfl rfl) rfl, puOn rfl rfl rfl rfl [(9, .int .i64 x20044), (77, .bool false)] rfl rfl (fun ac hA => y_move hA rfl rfl) rfl, puOn rfl rfl rfl rfl [(77, .bool false), (78, .slice B19840 m19841 d19842), (79, .int .i64 x20044)] rfl rfl (fun ac hA => y_ia Try.underlying31 sz9 (hS.rd 1 rfl) h20138 hA rfl rfl rfl) rfl, puOn rfl rfl rfl rfl [(77, .bool false), (80, .pointer (some (ea B19840 (x20044.toNat * 1))))] rfl rfl (fun ac hA => y_ld Try.underlying9 (hc20139 0 _ rfl) hA rfl rfl rfl) rfl, trivial⟩ (by kernel_rfl) (by kernel_rfl) ⟨efOn rfl rfl rfl [(77, .bool false), (81, str x20137)] rfl rfl (fun ac hA K hK => ?_) rfl, trivial⟩
          obtain ⟨y20140, h20141, hF⟩ := bnd hF
          refine z_call en21 hA (F_files_Form (L := optP (obj68) p111 o19836 :: own kS 9 B19840 m19841 d19842 y19838 :: L) x20137 h20141 hS) (fun v w hR => ?_) rfl rfl
          obtain ⟨rfl, hS⟩ := hR
          refine hK _ [(20, .bool (!y20140)), (21, .bool (!y20140))] _ rfl ?_
          refine dEnd [20, 21] (by kernel_rfl) ⟨puOn rfl rfl rfl rfl [(77, .bool false), (82, .bool y20140)] rfl rfl (fun ac hA => r_not rfl (hA.ev rfl)) rfl, pu rfl rfl [(77, .bool false), (83, .bool (!y20140))] (fun ac hA => y_pickf rfl hA rfl rfl rfl) rfl rfl, trivial⟩ ⟨by kernel_rfl, by kernel_rfl⟩ [(0, .slice A0 n0 c0), (3, .pointer p111), (5, .int .i64 x16823), (8, .slice B19840 m19841 d19842), (9, .int .i64 x20044), (78, .slice B19840 m19841 d19842), (79, .int .i64 x20044), (81, str x20137), (82, .bool y20140), (83, .bool (!y20140)), (84, .bool (!y20140))] rfl (fun ac hA => ?_)
          exact hj2 (!y20140) hF ac w (hA.sub _ rfl) hS
        replace hF := iff' hb20097 hF
        refine wp_exit ?_
        replace hS := hS.drop 1
        cases hF
        exact hx20093_3 (T20093_ _ rfl) ac w (hA.sub _ rfl) hS
      refine wp_seq_k fun K20142 hK20142 => ?_
      have hj3 : ∀ (b20145 : Bool), law05_FilesRising_j3 o16822 x16823 y19757 x19817 b20145 = some o18493 → ∀ (ac : Act) (w : World), FR 85 [] ac [(0, .slice A0 n0 c0), (3, .pointer p111), (5, .int .i64 x16823), (6, str y19757.1), (7, str y19757.2), (39, .int .u8 x19817), (43, .bool b20145)] → SH r (optP (obj68) p111 o16822 :: L) w → K20142 ac w := by
        intro b20145 hF ac w hA hS
        unfold law05_FilesRising_j3 at hF
        refine hK20142 _ _ ?_
        refine c_if hA rfl (fun hb20146 => ?_) fun hb20146 => ?_
        · replace hF := ift hb20146 hF
          refine wp_reg ?_
          refine x_move hA (fun ac hA => ?_) rfl rfl rfl rfl rfl
          refine x_move hA (fun ac hA => ?_) rfl rfl rfl rfl rfl
          obtain ⟨y20147, h20148, hF⟩ := bnd hF
          refine x_call en12 hA (F_files_Store_Append (L := L) o16822 y19757.1 [] p111 none 0 0 h20148 RdL.nil hS) (fun v ac w hR hA => ?_) rfl rfl rfl rfl rfl
          obtain ⟨rfl, hS⟩ := hR
          refine wpList_nil ?_
          exact hb2 y20147.2 hF ac w (hA.sub _ rfl) hS
        replace hF := iff' hb20146 hF
        refine wp_seq_k fun K20149 hK20149 => ?_
        refine wp_reg ?_
        refine x_val hA (r_eqI rfl (hA.ev rfl) (hA.ev rfl)) (fun ac hA => ?_) rfl rfl rfl
        refine x_assign hA (fun ac hA => ?_) rfl rfl rfl rfl rfl
        refine wpList_nil ?_
        refine hK20149 _ _ ?_
        refine c_if hA rfl (fun hb20150 => ?_) fun hb20150 => ?_
        · replace hF := ift hb20150 hF
          refine wp_reg ?_
          refine x_move hA (fun ac hA => ?_) rfl rfl rfl rfl rfl
          refine x_move hA (fun ac hA => ?_) rfl rfl rfl rfl rfl
          refine x_move hA (fun ac hA => ?_) rfl rfl rfl rfl rfl
          obtain ⟨y20151, h20152, hF⟩ := bnd hF
          refine x_call en18 hA (F_files_Store_Rename (L := L) o16822 y19757.1 y19757.2 p111 h20152 hS) (fun v ac w hR hA => ?_) rfl rfl rfl rfl rfl
          obtain ⟨rfl, hS⟩ := hR
          refine wpList_nil ?_
          exact hb2 y20151.2 hF ac w (hA.sub _ rfl) hS
        replace hF := iff' hb20150 hF
        refine wp_reg ?_
        refine x_move hA (fun ac hA => ?_) rfl rfl rfl rfl rfl
        refine x_move hA (fun ac hA => ?_) rfl rfl rfl rfl rfl
        obtain ⟨y20153, h20154, hF⟩ := bnd hF
        refine x_call en15 hA (F_files_Store_Delete (L := L) o16822 y19757.1 p111 h20154 hS) (fun v ac w hR hA => ?_) rfl rfl rfl rfl rfl
        obtain ⟨rfl, hS⟩ := hR
        refine wpList_nil ?_
        exact hb2 y20153.2 hF ac w (hA.sub _ rfl) hS
      refine wp_seq_k fun K20155 hK20155 => ?_
      refine wp_reg ?_
      refine x_val hA (r_eqI rfl (hA.ev rfl) (hA.ev rfl)) (fun ac hA => ?_) rfl rfl rfl
      refine x_assign hA (fun ac hA => ?_) rfl rfl rfl rfl rfl
      refine wpList_nil ?_
      refine hK20155 _ _ ?_
      refine c_if hA rfl (fun hb20156 => ?_) fun hb20156 => ?_
      · replace hF := ift hb20156 hF
        refine wp_skip ?_
        exact hj3 (x19817 == 0) hF ac w (hA.sub _ rfl) hS
      replace hF := iff' hb20156 hF
      refine wp_reg ?_
      refine x_val hA (r_eqI rfl (hA.ev rfl) (hA.ev rfl)) (fun ac hA => ?_) rfl rfl rfl
      refine x_assign hA (fun ac hA => ?_) rfl rfl rfl rfl rfl
      refine wpList_nil ?_
      exact hj3 (x19817 == 1) hF ac w (hA.sub _ rfl) hS
    replace hF := iff' hb18499 hF
    refine wp_exit ?_
    replace hS := hS.drop 0
    cases hF
    exact hx18493_0 (T18493_ _ rfl) ac w (hA.sub _ rfl) hS
  refine wp_reg ?_
  refine x_move hA (fun ac hA => ?_) rfl rfl rfl rfl rfl
  refine x_move hA (fun ac hA => ?_) rfl rfl rfl rfl rfl
  refine x_len Try.underlying42 (hS.rdl 1 ha0 rfl).2.1 hA (fun ac hA => ?_) rfl rfl rfl rfl rfl
  refine x_val hA (r_ltI rfl (hA.ev rfl) (hA.ev rfl)) (fun ac hA => ?_) rfl rfl rfl
  refine x_move hA (fun ac hA => ?_) rfl rfl rfl rfl rfl
  refine bcase (b := decide (x16823 < (a0.length : Int))) (fun hb20157 => ?_) fun hb20157 => ?_
  · replace hF := ift hb20157 hF
    refine x_on hb20157 hA ?_ rfl rfl rfl
    refine x_move hA (fun ac hA => ?_) rfl rfl rfl rfl rfl
    refine x_on hb20157 hA ?_ rfl rfl rfl
    refine x_val hA (r_ltI rfl (hA.ev rfl) (hA.ev rfl)) (fun ac hA => ?_) rfl rfl rfl
    refine x_pickt hb20157 hA (fun ac hA => ?_) rfl rfl rfl rfl rfl rfl
    refine wpList_nil ?_
    exact hj1 (decide (x16823 < 60)) hF ac w (hA.sub _ rfl) hS
  replace hF := iff' hb20157 hF
  refine x_off hb20157 hA (fun ac hA => ?_) rfl rfl rfl rfl rfl
  refine x_off hb20157 hA (fun ac hA => ?_) rfl rfl rfl rfl rfl
  refine x_pickf hb20157 hA (fun ac hA => ?_) rfl rfl rfl rfl rfl rfl
  refine wpList_nil ?_
  exact hj1 false hF ac w (hA.sub _ rfl) hS
end Go.Proofs.Ytgjhiojkkjaloaa.M
