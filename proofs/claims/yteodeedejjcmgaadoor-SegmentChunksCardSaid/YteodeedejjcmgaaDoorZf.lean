/- Texts of the claim, joined: what it uses of Mso, Dss, Mss, Drs, Mrs, Drn, Mrn, Dsh, Msh, DlSegmentChunks. -/
import Derived.Test.YteodeedejjcmgaaDoorZe
namespace Go.Proofs.YteodeedejjcmgaaDoor.M
open Go Go.RowKit Go.Proofs.YteodeedejjcmgaaDoor.E
set_option linter.unusedVariables false
set_option maxRecDepth 100000
set_option maxHeartbeats 4000000
set_option linter.unusedSimpArgs false
theorem F_segment_Segment_foot {r : World} {L : List HP} {w : World} {Z : Nat → Prop} {wz : World} (a0 : S83) (a1 : S106) (g0 : Nat) (g1 : Nat) {y : ((S83 × S106) ⊕ (S83 × S106))} (hF : segment_Segment_foot a0 a1 = some y) (qz : Nat) (hZ : L[qz]? = some (zone Z wz)) (hS : SH r (obj83 Z wz g0 a0 :: obj106 Z wz g1 a1 :: L) w) :
  RetS Tryd.prog 40 #[.pointer (some ⟨g0, 0, none⟩), .pointer (some ⟨g1, 0, none⟩)] w badC y (fun y v w' => v = .tuple #[] ∧ SH r (obj83 Z wz g0 y.1 :: obj106 Z wz g1 y.2 :: L) w') (fun y w' => SH r (obj83 Z wz g0 y.1 :: obj106 Z wz g1 y.2 :: L) w') := by
 refine enterS Tryd.func40 rfl Tryd.ntmps40 [(0, .pointer (some ⟨g0, 0, none⟩)), (1, .pointer (some ⟨g1, 0, none⟩))] rfl (by simp) ?_
 intro ac hA Qf hQ hQn hQp
 unfold segment_Segment_foot at hF
 obtain ⟨A101, n102, c103, A105, n106, c107, hS⟩ := obj83_open hS
 replace hS := hS.pk 2
 have hQ0 := SH.unpure hS
 clear hS
 obtain ⟨h104, hS⟩ := hQ0
 replace hS := hS.pk 2
 obtain ⟨A108, n109, c110, hS⟩ := obj106_open hS
 replace hS := hS.pk 1
 have hQ0 := SH.unpure hS
 clear hS
 obtain ⟨h111, hS⟩ := hQ0
 refine ws fun K112 hK112 => ?_
 refine x_m hA rfl fun ac hA => ?_
 refine x_m hA rfl fun ac hA => ?_
 replace hS := SH.pure_ h111 hS
 replace hS := hS.pk 1
 replace hS := obj106_mk (x := a1) hS
 obtain ⟨y113, h114, hF⟩ := bnd hF
 rcases y113 with y113 | y113
 rotate_left
 ·replace hF := sum_r hF
  refine x_callp (vs := #[.pointer (some ⟨g1, 0, none⟩), .int .u64 8]) en58 hA (RetS.rf (F_column_Reader_Uint (L := blk g0 83 [.slice A101 n102 c103, .int .i64 a0.f1, .slice A105 n106 c107] :: own k41 41 A105 n106 c107 a0.f2 :: L) a1 8 g1 h114 (qz + 2) hZ hS)) (fun w hR => ?_) rfl rfl rfl rfl rfl
  replace hS := hR
  obtain ⟨A115, n116, c117, hS⟩ := obj106_open hS
  replace hS := hS.pk 1
  have hQ0 := SH.unpure hS
  clear hS
  obtain ⟨h118, hS⟩ := hQ0
  replace hS := SH.pure_ h104 hS
  replace hS := hS.pk 3
  replace hS := hS.pk 3
  replace hS := obj83_mk (x := a0) hS
  replace hS := SH.pure_ h118 hS
  replace hS := hS.pk 2
  replace hS := obj106_mk (x := y113) hS
  replace hS := hS.pk 1
  cases hF
  exact hQp _ rfl _ _ hA.defers hS
 replace hF := sum_l hF
 refine x_callw (vs := #[.pointer (some ⟨g1, 0, none⟩), .int .u64 8]) en58 hA (RetS.lf (F_column_Reader_Uint (L := blk g0 83 [.slice A101 n102 c103, .int .i64 a0.f1, .slice A105 n106 c107] :: own k41 41 A105 n106 c107 a0.f2 :: L) a1 8 g1 h114 (qz + 2) hZ hS)) (fun v ac w hR hA => ?_) rfl rfl rfl rfl rfl rfl rfl
 obtain ⟨rfl, hS⟩ := hR
 obtain ⟨A119, n120, c121, hS⟩ := obj106_open hS
 replace hS := hS.pk 1
 have hQ0 := SH.unpure hS
 clear hS
 obtain ⟨h122, hS⟩ := hQ0
 obtain ⟨x123, h124, hF⟩ := ltt_ hF
 refine x_v (v := .int .i64 x123) hA (rv_i h124 (r_convI Tryd.underlying31 Tryd.underlying3 rfl (hA.ev rfl))) rfl fun ac hA => ?_
 refine x_v hA (r_nilCheck rfl (hA.ev rfl)) rfl fun ac hA => ?_
 refine x_fab fa83_1 hA (fun ac hA => ?_) rfl rfl rfl rfl rfl
 refine x_stb 1 sz3 hA hS rfl (fun  ac w hS hA => ?_) rfl rfl rfl rfl rfl rfl rfl rfl
 refine wn (hK112 _ _ ?_)
 refine ws fun K125 hK125 => ?_
 refine x_m hA rfl fun ac hA => ?_
 replace hS := SH.pure_ h122 hS
 replace hS := hS.pk 2
 replace hS := obj106_mk (x := y113.2) hS
 obtain ⟨y126, h127, hF⟩ := bnd hF
 rcases y126 with y126 | y126
 rotate_left
 ·replace hF := sum_r hF
  refine x_callp (vs := #[.pointer (some ⟨g1, 0, none⟩), .int .u64 1024]) en58 hA (RetS.rf (F_column_Reader_Uint (L := blk g0 83 [.slice A101 n102 c103, .int .i64 x123, .slice A105 n106 c107] :: own k41 41 A105 n106 c107 a0.f2 :: L) y113.2 1024 g1 h127 (qz + 2) hZ hS)) (fun w hR => ?_) rfl rfl rfl rfl rfl
  replace hS := hR
  obtain ⟨A128, n129, c130, hS⟩ := obj106_open hS
  replace hS := hS.pk 1
  have hQ0 := SH.unpure hS
  clear hS
  obtain ⟨h131, hS⟩ := hQ0
  replace hS := SH.pure_ h104 hS
  replace hS := hS.pk 3
  replace hS := hS.pk 3
  replace hS := obj83_mk (x := (⟨a0.f0, x123, a0.f2⟩ : S83)) hS
  replace hS := SH.pure_ h131 hS
  replace hS := hS.pk 2
  replace hS := obj106_mk (x := y126) hS
  replace hS := hS.pk 1
  cases hF
  exact hQp _ rfl _ _ hA.defers hS
 replace hF := sum_l hF
 refine x_callw (vs := #[.pointer (some ⟨g1, 0, none⟩), .int .u64 1024]) en58 hA (RetS.lf (F_column_Reader_Uint (L := blk g0 83 [.slice A101 n102 c103, .int .i64 x123, .slice A105 n106 c107] :: own k41 41 A105 n106 c107 a0.f2 :: L) y113.2 1024 g1 h127 (qz + 2) hZ hS)) (fun v ac w hR hA => ?_) rfl rfl rfl rfl rfl rfl rfl
 obtain ⟨rfl, hS⟩ := hR
 obtain ⟨A132, n133, c134, hS⟩ := obj106_open hS
 replace hS := hS.pk 1
 have hQ0 := SH.unpure hS
 clear hS
 obtain ⟨h135, hS⟩ := hQ0
 refine x_m hA rfl fun ac hA => ?_
 refine wn (hK125 _ _ ?_)
 refine wp_seq_k fun K136 hK136 => ?_
 have hj1 : ∀ (l158 : (List Int)), segment_Segment_foot_j1 a0 x123 y126 l158 = some y → ∀ (A159 : Option Addr) (n160 : Nat) (c161 : Nat) (h162 : Imm Z wz (kI .u8) A159 n160 c161 l158) (ac : Act) (w : World), FR 132 [] ac [(0, .pointer (some ⟨g0, 0, none⟩)), (1, .pointer (some ⟨g1, 0, none⟩)), (4, .int .u64 y126.1)] → SH r (blk g0 83 [.slice A101 n102 c103, .int .i64 x123, .slice A105 n106 c107] :: blk g1 106 [.slice A159 n160 c161] :: own k41 41 A105 n106 c107 a0.f2 :: L) w → K136 ac w := by
  intro l158 hF A159 n160 c161 h162 ac w hA hS
  unfold segment_Segment_foot_j1 at hF
  refine hK136 _ _ ?_
  refine ws fun K163 hK163 => ?_
  refine x_m hA rfl fun ac hA => ?_
  refine x_m hA rfl fun ac hA => ?_
  refine wn (hK163 _ _ ?_)
  refine wp_block_k fun Kx164 hKx164 => ?_
  have hb1 : ∀ (l4801 : (List S41)) (l4805 : (List Int)), segment_Segment_foot_b1 a0 x123 l4801 l4805 = some y → ∀ (A4802 : Option Addr) (n4803 : Nat) (c4804 : Nat) (A4806 : Option Addr) (n4807 : Nat) (c4808 : Nat) (h4809 : Imm Z wz (kI .u8) A4806 n4807 c4808 l4805) (ac : Act) (w : World), FR 132 [] ac [(0, .pointer (some ⟨g0, 0, none⟩)), (1, .pointer (some ⟨g1, 0, none⟩))] → SH r (blk g0 83 [.slice A101 n102 c103, .int .i64 x123, .slice A4802 n4803 c4804] :: blk g1 106 [.slice A4806 n4807 c4808] :: own k41 41 A4802 n4803 c4804 l4801 :: L) w → Kx164 ac w := by
   intro l4801 l4805 hF A4802 n4803 c4804 A4806 n4807 c4808 h4809 ac w hA hS
   unfold segment_Segment_foot_b1 at hF
   refine hKx164 _ _ ?_
   replace hS := SH.pure_ h104 hS
   replace hS := hS.pk 3
   replace hS := hS.pk 2
   replace hS := obj83_mk (x := (⟨a0.f0, x123, l4801⟩ : S83)) hS
   replace hS := SH.pure_ h4809 hS
   replace hS := hS.pk 2
   replace hS := obj106_mk (x := (⟨l4805⟩ : S106)) hS
   replace hS := hS.pk 1
   cases hF
   refine hQn _ rfl _ _ ?_
   refine lv0n Tryd.results40 hA ?_
   exact ⟨rfl, hS⟩
  obtain ⟨t7912, hl7912, hF⟩ := bnd hF
  have hR7912 := hF
  have hx7912_0 : ∀ (l7904 : (List S41)) (l7908 : (List Int)), (.inl (l7904, l7908)) = t7912 → ∀ (A7905 : Option Addr) (n7906 : Nat) (c7907 : Nat) (A7909 : Option Addr) (n7910 : Nat) (c7911 : Nat) (h7912 : Imm Z wz (kI .u8) A7909 n7910 c7911 l7908) (ac : Act) (w : World), FR 132 [] ac [(0, .pointer (some ⟨g0, 0, none⟩)), (1, .pointer (some ⟨g1, 0, none⟩))] → SH r (blk g0 83 [.slice A101 n102 c103, .int .i64 x123, .slice A7905 n7906 c7907] :: blk g1 106 [.slice A7909 n7910 c7911] :: own k41 41 A7905 n7906 c7907 l7904 :: L) w → Kx164 ac w := by
   intro l7904 l7908 ht A7905 n7906 c7907 A7909 n7910 c7911 h7912 ac w hA hS
   subst ht
   replace hF : segment_Segment_foot_x1_0 a0 x123 l7904 l7908 = some y := hF
   unfold segment_Segment_foot_x1_0 at hF
   exact hb1 l7904 l7908 hF A7905 n7906 c7907 A7909 n7910 c7911 h7912 ac w (hA.sub _ rfl) hS
  refine wp_loop_fn hl7912 (fun s ac w => ∃ (A6353 : Option Addr) (n6354 : Nat) (c6355 : Nat) (A6357 : Option Addr) (n6358 : Nat) (c6359 : Nat), Imm Z wz (kI .u8) A6357 n6358 c6359 s.2.1 ∧ FR 132 [] ac [(0, .pointer (some ⟨g0, 0, none⟩)), (1, .pointer (some ⟨g1, 0, none⟩)), (26, .int .u64 y126.1), (27, .int .u64 s.2.2)] ∧ SH r (blk g0 83 [.slice A101 n102 c103, .int .i64 x123, .slice A6353 n6354 c6355] :: blk g1 106 [.slice A6357 n6358 c6359] :: own k41 41 A6353 n6354 c6355 s.1 :: L) w) ⟨A105, n106, c107, A159, n160, c161, h162, hA.sub _ rfl, hS⟩ ?_
  intro N7912 s7912 o7912 hF N7912_ T7912_ ac w hLab
  obtain ⟨l6352, l6356, x6361⟩ := s7912
  replace hF : segment_Segment_foot_l1 a0 x123 y126 l6352 l6356 x6361 = some o7912 := hF
  unfold segment_Segment_foot_l1 at hF
  try dsimp only at hLab
  obtain ⟨A6353, n6354, c6355, A6357, n6358, c6359, h6360, hA, hS⟩ := hLab
  refine ws fun K7914 hK7914 => ?_
  refine x_v hA (r_ltI rfl (hA.ev rfl) (hA.ev rfl)) rfl fun ac hA => ?_
  refine wn (hK7914 _ _ ?_)
  refine wp_seq_k fun K7915 hK7915 => ?_
  refine c_if hA rfl (fun hb7916 => ?_) fun hb7916 => ?_
  ·replace hF := ift hb7916 hF
   refine wp_skip ?_
   refine hK7915 _ _ ?_
   refine wp_seq_k fun K7917 hK7917 => ?_
   refine wp_block_k fun Kx8681 hKx8681 => ?_
   refine ws fun K9063 hK9063 => ?_
   refine x_m hA rfl fun ac hA => ?_
   refine x_m hA rfl fun ac hA => ?_
   refine wn (hK9063 _ _ ?_)
   refine wp_seq_k fun K9064 hK9064 => ?_
   have hj2 : ∀ (l9130 : (List Int)) (x9136 : Int) (x9137 : Int), segment_Segment_foot_j2 a0 x123 l6352 x6361 l9130 x9136 x9137 = some o7912 → ∀ (A9131 : Option Addr) (n9132 : Nat) (c9133 : Nat) (g9135 : Nat) (h9134 : Imm Z wz (kI .u8) A9131 n9132 c9133 l9130) (ac : Act) (w : World), FR 132 [] ac [(0, .pointer (some ⟨g0, 0, none⟩)), (1, .pointer (some ⟨g1, 0, none⟩)), (5, .int .u64 x6361), (6, .pointer (some ⟨g9135, 0, none⟩)), (26, .int .u64 y126.1), (27, .int .u64 x6361)] → SH r (blk g0 83 [.slice A101 n102 c103, .int .i64 x123, .slice A6353 n6354 c6355] :: blk g1 106 [.slice A9131 n9132 c9133] :: blk g9135 41 [.int .i64 x9136, .int .i64 x9137, .int .u64 0, .int .u64 0, .int .i64 0, .int .i64 0, str [], str []] :: own k41 41 A6353 n6354 c6355 l6352 :: L) w → K9064 ac w := by
    intro l9130 x9136 x9137 hF A9131 n9132 c9133 g9135 h9134 ac w hA hS
    unfold segment_Segment_foot_j2 at hF
    refine hK9064 _ _ ?_
    refine ws fun K9138 hK9138 => ?_
    refine x_m hA rfl fun ac hA => ?_
    replace hS := SH.pure_ h9134 hS
    replace hS := hS.pk 2
    replace hS := obj106_mk (x := (⟨l9130⟩ : S106)) hS
    obtain ⟨y9139, h9140, hF⟩ := bnd hF
    rcases y9139 with y9139 | y9139
    rotate_left
    ·replace hF := sum_r hF
     refine x_callp (vs := #[.pointer (some ⟨g1, 0, none⟩), .int .u64 1099511627776]) en58 hA (RetS.rf (F_column_Reader_Uint (L := blk g0 83 [.slice A101 n102 c103, .int .i64 x123, .slice A6353 n6354 c6355] :: blk g9135 41 [.int .i64 x9136, .int .i64 x9137, .int .u64 0, .int .u64 0, .int .i64 0, .int .i64 0, str [], str []] :: own k41 41 A6353 n6354 c6355 l6352 :: L) (⟨l9130⟩ : S106) 1099511627776 g1 h9140 (qz + 3) hZ hS)) (fun w hR => ?_) rfl rfl rfl rfl rfl
     replace hS := hR
     obtain ⟨A9141, n9142, c9143, hS⟩ := obj106_open hS
     replace hS := hS.pk 1
     have hQ0 := SH.unpure hS
     clear hS
     obtain ⟨h9144, hS⟩ := hQ0
     replace hS := SH.pure_ h104 hS
     replace hS := hS.pk 4
     replace hS := hS.pk 3
     replace hS := obj83_mk (x := (⟨a0.f0, x123, l6352⟩ : S83)) hS
     replace hS := SH.pure_ h9144 hS
     replace hS := hS.pk 2
     replace hS := obj106_mk (x := y9139) hS
     replace hS := hS.drop 2
     replace hS := hS.pk 1
     cases hF
     have ht := T7912_ _ rfl
     subst ht
     replace hF := hR7912
     replace hF : some (.inr ((⟨a0.f0, x123, l6352⟩ : S83), y9139)) = some y := hF
     cases hF
     exact hQp _ rfl _ _ hA.defers hS
    replace hF := sum_l hF
    refine x_callw (vs := #[.pointer (some ⟨g1, 0, none⟩), .int .u64 1099511627776]) en58 hA (RetS.lf (F_column_Reader_Uint (L := blk g0 83 [.slice A101 n102 c103, .int .i64 x123, .slice A6353 n6354 c6355] :: blk g9135 41 [.int .i64 x9136, .int .i64 x9137, .int .u64 0, .int .u64 0, .int .i64 0, .int .i64 0, str [], str []] :: own k41 41 A6353 n6354 c6355 l6352 :: L) (⟨l9130⟩ : S106) 1099511627776 g1 h9140 (qz + 3) hZ hS)) (fun v ac w hR hA => ?_) rfl rfl rfl rfl rfl rfl rfl
    obtain ⟨rfl, hS⟩ := hR
    obtain ⟨A9145, n9146, c9147, hS⟩ := obj106_open hS
    replace hS := hS.pk 1
    have hQ0 := SH.unpure hS
    clear hS
    obtain ⟨h9148, hS⟩ := hQ0
    refine x_m hA rfl fun ac hA => ?_
    replace hS := SH.pure_ h9148 hS
    replace hS := hS.pk 1
    replace hS := obj106_mk (x := y9139.2) hS
    obtain ⟨y9149, h9150, hF⟩ := bnd hF
    rcases y9149 with y9149 | y9149
    rotate_left
    ·replace hF := sum_r hF
     refine x_callp (vs := #[.pointer (some ⟨g1, 0, none⟩), .int .u64 1099511627776]) en58 hA (RetS.rf (F_column_Reader_Uint (L := blk g0 83 [.slice A101 n102 c103, .int .i64 x123, .slice A6353 n6354 c6355] :: blk g9135 41 [.int .i64 x9136, .int .i64 x9137, .int .u64 0, .int .u64 0, .int .i64 0, .int .i64 0, str [], str []] :: own k41 41 A6353 n6354 c6355 l6352 :: L) y9139.2 1099511627776 g1 h9150 (qz + 3) hZ hS)) (fun w hR => ?_) rfl rfl rfl rfl rfl
     replace hS := hR
     obtain ⟨A9151, n9152, c9153, hS⟩ := obj106_open hS
     replace hS := hS.pk 1
     have hQ0 := SH.unpure hS
     clear hS
     obtain ⟨h9154, hS⟩ := hQ0
     replace hS := SH.pure_ h104 hS
     replace hS := hS.pk 4
     replace hS := hS.pk 3
     replace hS := obj83_mk (x := (⟨a0.f0, x123, l6352⟩ : S83)) hS
     replace hS := SH.pure_ h9154 hS
     replace hS := hS.pk 2
     replace hS := obj106_mk (x := y9149) hS
     replace hS := hS.drop 2
     replace hS := hS.pk 1
     cases hF
     have ht := T7912_ _ rfl
     subst ht
     replace hF := hR7912
     replace hF : some (.inr ((⟨a0.f0, x123, l6352⟩ : S83), y9149)) = some y := hF
     cases hF
     exact hQp _ rfl _ _ hA.defers hS
    replace hF := sum_l hF
    refine x_callw (vs := #[.pointer (some ⟨g1, 0, none⟩), .int .u64 1099511627776]) en58 hA (RetS.lf (F_column_Reader_Uint (L := blk g0 83 [.slice A101 n102 c103, .int .i64 x123, .slice A6353 n6354 c6355] :: blk g9135 41 [.int .i64 x9136, .int .i64 x9137, .int .u64 0, .int .u64 0, .int .i64 0, .int .i64 0, str [], str []] :: own k41 41 A6353 n6354 c6355 l6352 :: L) y9139.2 1099511627776 g1 h9150 (qz + 3) hZ hS)) (fun v ac w hR hA => ?_) rfl rfl rfl rfl rfl rfl rfl
    obtain ⟨rfl, hS⟩ := hR
    obtain ⟨A9155, n9156, c9157, hS⟩ := obj106_open hS
    replace hS := hS.pk 1
    have hQ0 := SH.unpure hS
    clear hS
    obtain ⟨h9158, hS⟩ := hQ0
    refine x_fab fa41_2 hA (fun ac hA => ?_) rfl rfl rfl rfl rfl
    refine x_stb 2 sz31 hA hS rfl (fun  ac w hS hA => ?_) rfl rfl rfl rfl rfl rfl rfl rfl
    refine x_fab fa41_3 hA (fun ac hA => ?_) rfl rfl rfl rfl rfl
    refine x_stb 0 sz31 hA hS rfl (fun  ac w hS hA => ?_) rfl rfl rfl rfl rfl rfl rfl rfl
    refine wn (hK9138 _ _ ?_)
    refine ws fun K9159 hK9159 => ?_
    refine x_m hA rfl fun ac hA => ?_
    replace hS := SH.pure_ h9158 hS
    replace hS := hS.pk 2
    replace hS := obj106_mk (x := y9149.2) hS
    obtain ⟨y9160, h9161, hF⟩ := bnd hF
    rcases y9160 with y9160 | y9160
    rotate_left
    ·replace hF := sum_r hF
     refine x_callp (vs := #[.pointer (some ⟨g1, 0, none⟩)]) en60 hA (RetS.rf (F_column_Reader_Int (L := blk g9135 41 [.int .i64 x9136, .int .i64 x9137, .int .u64 y9139.1, .int .u64 y9149.1, .int .i64 0, .int .i64 0, str [], str []] :: blk g0 83 [.slice A101 n102 c103, .int .i64 x123, .slice A6353 n6354 c6355] :: own k41 41 A6353 n6354 c6355 l6352 :: L) y9149.2 g1 h9161 (qz + 3) hZ hS)) (fun w hR => ?_) rfl rfl rfl rfl rfl
     replace hS := hR
     obtain ⟨A9162, n9163, c9164, hS⟩ := obj106_open hS
     replace hS := hS.pk 1
     have hQ0 := SH.unpure hS
     clear hS
     obtain ⟨h9165, hS⟩ := hQ0
     replace hS := SH.pure_ h104 hS
     replace hS := hS.pk 4
     replace hS := hS.pk 4
     replace hS := obj83_mk (x := (⟨a0.f0, x123, l6352⟩ : S83)) hS
     replace hS := SH.pure_ h9165 hS
     replace hS := hS.pk 2
     replace hS := obj106_mk (x := y9160) hS
     replace hS := hS.drop 2
     replace hS := hS.pk 1
     cases hF
     have ht := T7912_ _ rfl
     subst ht
     replace hF := hR7912
     replace hF : some (.inr ((⟨a0.f0, x123, l6352⟩ : S83), y9160)) = some y := hF
     cases hF
     exact hQp _ rfl _ _ hA.defers hS
    replace hF := sum_l hF
    refine x_callw (vs := #[.pointer (some ⟨g1, 0, none⟩)]) en60 hA (RetS.lf (F_column_Reader_Int (L := blk g9135 41 [.int .i64 x9136, .int .i64 x9137, .int .u64 y9139.1, .int .u64 y9149.1, .int .i64 0, .int .i64 0, str [], str []] :: blk g0 83 [.slice A101 n102 c103, .int .i64 x123, .slice A6353 n6354 c6355] :: own k41 41 A6353 n6354 c6355 l6352 :: L) y9149.2 g1 h9161 (qz + 3) hZ hS)) (fun v ac w hR hA => ?_) rfl rfl rfl rfl rfl rfl rfl
    obtain ⟨rfl, hS⟩ := hR
    obtain ⟨A9166, n9167, c9168, hS⟩ := obj106_open hS
    replace hS := hS.pk 1
    have hQ0 := SH.unpure hS
    clear hS
    obtain ⟨h9169, hS⟩ := hQ0
    refine x_m hA rfl fun ac hA => ?_
    replace hS := SH.pure_ h9169 hS
    replace hS := hS.pk 1
    replace hS := obj106_mk (x := y9160.2) hS
    obtain ⟨y9170, h9171, hF⟩ := bnd hF
    rcases y9170 with y9170 | y9170
    rotate_left
    ·replace hF := sum_r hF
     refine x_callp (vs := #[.pointer (some ⟨g1, 0, none⟩)]) en60 hA (RetS.rf (F_column_Reader_Int (L := blk g9135 41 [.int .i64 x9136, .int .i64 x9137, .int .u64 y9139.1, .int .u64 y9149.1, .int .i64 0, .int .i64 0, str [], str []] :: blk g0 83 [.slice A101 n102 c103, .int .i64 x123, .slice A6353 n6354 c6355] :: own k41 41 A6353 n6354 c6355 l6352 :: L) y9160.2 g1 h9171 (qz + 3) hZ hS)) (fun w hR => ?_) rfl rfl rfl rfl rfl
     replace hS := hR
     obtain ⟨A9172, n9173, c9174, hS⟩ := obj106_open hS
     replace hS := hS.pk 1
     have hQ0 := SH.unpure hS
     clear hS
     obtain ⟨h9175, hS⟩ := hQ0
     replace hS := SH.pure_ h104 hS
     replace hS := hS.pk 4
     replace hS := hS.pk 4
     replace hS := obj83_mk (x := (⟨a0.f0, x123, l6352⟩ : S83)) hS
     replace hS := SH.pure_ h9175 hS
     replace hS := hS.pk 2
     replace hS := obj106_mk (x := y9170) hS
     replace hS := hS.drop 2
     replace hS := hS.pk 1
     cases hF
     have ht := T7912_ _ rfl
     subst ht
     replace hF := hR7912
     replace hF : some (.inr ((⟨a0.f0, x123, l6352⟩ : S83), y9170)) = some y := hF
     cases hF
     exact hQp _ rfl _ _ hA.defers hS
    replace hF := sum_l hF
    refine x_callw (vs := #[.pointer (some ⟨g1, 0, none⟩)]) en60 hA (RetS.lf (F_column_Reader_Int (L := blk g9135 41 [.int .i64 x9136, .int .i64 x9137, .int .u64 y9139.1, .int .u64 y9149.1, .int .i64 0, .int .i64 0, str [], str []] :: blk g0 83 [.slice A101 n102 c103, .int .i64 x123, .slice A6353 n6354 c6355] :: own k41 41 A6353 n6354 c6355 l6352 :: L) y9160.2 g1 h9171 (qz + 3) hZ hS)) (fun v ac w hR hA => ?_) rfl rfl rfl rfl rfl rfl rfl
    obtain ⟨rfl, hS⟩ := hR
    obtain ⟨A9176, n9177, c9178, hS⟩ := obj106_open hS
    replace hS := hS.pk 1
    have hQ0 := SH.unpure hS
    clear hS
    obtain ⟨h9179, hS⟩ := hQ0
    refine x_fab fa41_4 hA (fun ac hA => ?_) rfl rfl rfl rfl rfl
    refine x_stb 1 sz2 hA hS rfl (fun  ac w hS hA => ?_) rfl rfl rfl rfl rfl rfl rfl rfl
    refine x_fab fa41_5 hA (fun ac hA => ?_) rfl rfl rfl rfl rfl
    refine x_stb 0 sz2 hA hS rfl (fun  ac w hS hA => ?_) rfl rfl rfl rfl rfl rfl rfl rfl
    refine wn (hK9159 _ _ ?_)
    refine ws fun K9180 hK9180 => ?_
    refine x_m hA rfl fun ac hA => ?_
    replace hS := SH.pure_ h9179 hS
    replace hS := hS.pk 2
    replace hS := obj106_mk (x := y9170.2) hS
    obtain ⟨y9181, h9182, hF⟩ := bnd hF
    rcases y9181 with y9181 | y9181
    rotate_left
    ·replace hF := sum_r hF
     refine x_callp (vs := #[.pointer (some ⟨g1, 0, none⟩), .int .i64 32]) en61 hA (RetS.rf (F_column_Reader_Text (L := blk g9135 41 [.int .i64 x9136, .int .i64 x9137, .int .u64 y9139.1, .int .u64 y9149.1, .int .i64 y9160.1, .int .i64 y9170.1, str [], str []] :: blk g0 83 [.slice A101 n102 c103, .int .i64 x123, .slice A6353 n6354 c6355] :: own k41 41 A6353 n6354 c6355 l6352 :: L) y9170.2 32 g1 h9182 (qz + 3) hZ hS)) (fun w hR => ?_) rfl rfl rfl rfl rfl
     replace hS := hR
     obtain ⟨A9183, n9184, c9185, hS⟩ := obj106_open hS
     replace hS := hS.pk 1
     have hQ0 := SH.unpure hS
     clear hS
     obtain ⟨h9186, hS⟩ := hQ0
     replace hS := SH.pure_ h104 hS
     replace hS := hS.pk 4
     replace hS := hS.pk 4
     replace hS := obj83_mk (x := (⟨a0.f0, x123, l6352⟩ : S83)) hS
     replace hS := SH.pure_ h9186 hS
     replace hS := hS.pk 2
     replace hS := obj106_mk (x := y9181) hS
     replace hS := hS.drop 2
     replace hS := hS.pk 1
     cases hF
     have ht := T7912_ _ rfl
     subst ht
     replace hF := hR7912
     replace hF : some (.inr ((⟨a0.f0, x123, l6352⟩ : S83), y9181)) = some y := hF
     cases hF
     exact hQp _ rfl _ _ hA.defers hS
    replace hF := sum_l hF
    refine x_callw (vs := #[.pointer (some ⟨g1, 0, none⟩), .int .i64 32]) en61 hA (RetS.lf (F_column_Reader_Text (L := blk g9135 41 [.int .i64 x9136, .int .i64 x9137, .int .u64 y9139.1, .int .u64 y9149.1, .int .i64 y9160.1, .int .i64 y9170.1, str [], str []] :: blk g0 83 [.slice A101 n102 c103, .int .i64 x123, .slice A6353 n6354 c6355] :: own k41 41 A6353 n6354 c6355 l6352 :: L) y9170.2 32 g1 h9182 (qz + 3) hZ hS)) (fun v ac w hR hA => ?_) rfl rfl rfl rfl rfl rfl rfl
    obtain ⟨rfl, hS⟩ := hR
    obtain ⟨A9187, n9188, c9189, hS⟩ := obj106_open hS
    replace hS := hS.pk 1
    have hQ0 := SH.unpure hS
    clear hS
    obtain ⟨h9190, hS⟩ := hQ0
    refine x_m hA rfl fun ac hA => ?_
    replace hS := SH.pure_ h9190 hS
    replace hS := hS.pk 1
    replace hS := obj106_mk (x := y9181.2) hS
    obtain ⟨y9191, h9192, hF⟩ := bnd hF
    rcases y9191 with y9191 | y9191
    rotate_left
    ·replace hF := sum_r hF
     refine x_callp (vs := #[.pointer (some ⟨g1, 0, none⟩), .int .i64 32]) en61 hA (RetS.rf (F_column_Reader_Text (L := blk g9135 41 [.int .i64 x9136, .int .i64 x9137, .int .u64 y9139.1, .int .u64 y9149.1, .int .i64 y9160.1, .int .i64 y9170.1, str [], str []] :: blk g0 83 [.slice A101 n102 c103, .int .i64 x123, .slice A6353 n6354 c6355] :: own k41 41 A6353 n6354 c6355 l6352 :: L) y9181.2 32 g1 h9192 (qz + 3) hZ hS)) (fun w hR => ?_) rfl rfl rfl rfl rfl
     replace hS := hR
     obtain ⟨A9193, n9194, c9195, hS⟩ := obj106_open hS
     replace hS := hS.pk 1
     have hQ0 := SH.unpure hS
     clear hS
     obtain ⟨h9196, hS⟩ := hQ0
     replace hS := SH.pure_ h104 hS
     replace hS := hS.pk 4
     replace hS := hS.pk 4
     replace hS := obj83_mk (x := (⟨a0.f0, x123, l6352⟩ : S83)) hS
     replace hS := SH.pure_ h9196 hS
     replace hS := hS.pk 2
     replace hS := obj106_mk (x := y9191) hS
     replace hS := hS.drop 2
     replace hS := hS.pk 1
     cases hF
     have ht := T7912_ _ rfl
     subst ht
     replace hF := hR7912
     replace hF : some (.inr ((⟨a0.f0, x123, l6352⟩ : S83), y9191)) = some y := hF
     cases hF
     exact hQp _ rfl _ _ hA.defers hS
    replace hF := sum_l hF
    refine x_callw (vs := #[.pointer (some ⟨g1, 0, none⟩), .int .i64 32]) en61 hA (RetS.lf (F_column_Reader_Text (L := blk g9135 41 [.int .i64 x9136, .int .i64 x9137, .int .u64 y9139.1, .int .u64 y9149.1, .int .i64 y9160.1, .int .i64 y9170.1, str [], str []] :: blk g0 83 [.slice A101 n102 c103, .int .i64 x123, .slice A6353 n6354 c6355] :: own k41 41 A6353 n6354 c6355 l6352 :: L) y9181.2 32 g1 h9192 (qz + 3) hZ hS)) (fun v ac w hR hA => ?_) rfl rfl rfl rfl rfl rfl rfl
    obtain ⟨rfl, hS⟩ := hR
    obtain ⟨A9197, n9198, c9199, hS⟩ := obj106_open hS
    replace hS := hS.pk 1
    have hQ0 := SH.unpure hS
    clear hS
    obtain ⟨h9200, hS⟩ := hQ0
    refine x_fab fa41_6 hA (fun ac hA => ?_) rfl rfl rfl rfl rfl
    refine x_stb 1 sz9 hA hS rfl (fun  ac w hS hA => ?_) rfl rfl rfl rfl rfl rfl rfl rfl
    refine x_fab fa41_7 hA (fun ac hA => ?_) rfl rfl rfl rfl rfl
    refine x_stb 0 sz9 hA hS rfl (fun  ac w hS hA => ?_) rfl rfl rfl rfl rfl rfl rfl rfl
    refine wn (hK9180 _ _ ?_)
    refine wp_seq_k fun K9201 hK9201 => ?_
    have hj3 : ∀ (l9240 : (List Int)), segment_Segment_foot_j3 a0 x123 l6352 x6361 x9136 x9137 y9139 y9149 y9160 y9170 y9181 y9191 l9240 = some o7912 → ∀ (A9241 : Option Addr) (n9242 : Nat) (c9243 : Nat) (h9244 : Imm Z wz (kI .u8) A9241 n9242 c9243 l9240) (ac : Act) (w : World), FR 132 [] ac [(0, .pointer (some ⟨g0, 0, none⟩)), (1, .pointer (some ⟨g1, 0, none⟩)), (5, .int .u64 x6361), (6, .pointer (some ⟨g9135, 0, none⟩)), (26, .int .u64 y126.1), (27, .int .u64 x6361)] → SH r (blk g0 83 [.slice A101 n102 c103, .int .i64 x123, .slice A6353 n6354 c6355] :: blk g1 106 [.slice A9241 n9242 c9243] :: blk g9135 41 [.int .i64 x9136, .int .i64 x9137, .int .u64 y9139.1, .int .u64 y9149.1, .int .i64 y9160.1, .int .i64 y9170.1, str y9181.1, str y9191.1] :: own k41 41 A6353 n6354 c6355 l6352 :: L) w → K9201 ac w := by
     intro l9240 hF A9241 n9242 c9243 h9244 ac w hA hS
     unfold segment_Segment_foot_j3 at hF
     refine hK9201 _ _ ?_
     refine wp_seq_k fun K9245 hK9245 => ?_
     have hj4 : ∀ (l9287 : (List Int)), segment_Segment_foot_j4 l6352 x6361 x9136 x9137 y9139 y9149 y9160 y9170 y9181 y9191 l9287 = some o7912 → ∀ (A9288 : Option Addr) (n9289 : Nat) (c9290 : Nat) (h9291 : Imm Z wz (kI .u8) A9288 n9289 c9290 l9287) (ac : Act) (w : World), FR 132 [] ac [(0, .pointer (some ⟨g0, 0, none⟩)), (1, .pointer (some ⟨g1, 0, none⟩)), (6, .pointer (some ⟨g9135, 0, none⟩)), (26, .int .u64 y126.1), (27, .int .u64 x6361)] → SH r (blk g0 83 [.slice A101 n102 c103, .int .i64 x123, .slice A6353 n6354 c6355] :: blk g1 106 [.slice A9288 n9289 c9290] :: blk g9135 41 [.int .i64 x9136, .int .i64 x9137, .int .u64 y9139.1, .int .u64 y9149.1, .int .i64 y9160.1, .int .i64 y9170.1, str y9181.1, str y9191.1] :: own k41 41 A6353 n6354 c6355 l6352 :: L) w → K9245 ac w := by
      intro l9287 hF A9288 n9289 c9290 h9291 ac w hA hS
      unfold segment_Segment_foot_j4 at hF
      refine hK9245 _ _ ?_
      refine wp_draw [0, 0, 2, 6, 14, 0, 32, 126, 255, 511, 1023] [6, 7, 10] rfl hA hS (by kernel_rfl) (by kernel_rfl) (by kernel_rfl) (by kernel_rfl) fun w hS => ?_
      refine ⟨[(0, .pointer (some ⟨g0, 0, none⟩)), (1, .pointer (some ⟨g0, 0, none⟩)), (2, .pointer (some ⟨g0, 0, none⟩)), (3, .pointer (some ⟨g0, 2, none⟩)), (4, .slice A6353 n6354 c6355), (5, .agg #[.int .i64 x9136, .int .i64 x9137, .int .u64 y9139.1, .int .u64 y9149.1, .int .i64 y9160.1, .int .i64 y9170.1, str y9181.1, str y9191.1])], ?_⟩
      refine dEff [0, 1, 2, 3, 4, 5] [6] (by kernel_rfl) ⟨pu rfl rfl [(0, .pointer (some ⟨g0, 0, none⟩))] (fun ac hA => y_move hA rfl rfl) rfl rfl, pu rfl rfl [(0, .pointer (some ⟨g0, 0, none⟩))] (fun ac hA => y_move hA rfl rfl) rfl rfl, pu rfl rfl [(122, .pointer (some ⟨g0, 0, none⟩))] (fun ac hA => r_nilCheck rfl (hA.ev rfl)) rfl rfl, pu rfl rfl [(123, .pointer (some ⟨g0, 0, none⟩))] (fun ac hA => y_fab fa83_2 hA rfl rfl) rfl rfl, pu rfl rfl [(124, .pointer (some ⟨g0, 2, none⟩))] (fun ac hA => y_ld Tryd.underlying38 (hS.cell 0 rfl 2 _ rfl) hA rfl rfl rfl) rfl rfl, pu rfl rfl [(6, .pointer (some ⟨g9135, 0, none⟩))] (fun ac hA => y_lda (ad := ⟨g9135, 0, none⟩) (cs := [.int .i64 x9136, .int .i64 x9137, .int .u64 y9139.1, .int .u64 y9149.1, .int .i64 y9160.1, .int .i64 y9170.1, str y9181.1, str y9191.1]) Tryd.underlying41 sz41 (fun j u h => by rw [add_mk, Nat.zero_add]; exact hS.cell 2 rfl j u h) hA rfl rfl rfl) rfl rfl, trivial⟩ (by kernel_rfl) (by kernel_rfl) ⟨ef rfl [(126, .agg #[.int .i64 x9136, .int .i64 x9137, .int .u64 y9139.1, .int .u64 y9149.1, .int .i64 y9160.1, .int .i64 y9170.1, str y9181.1, str y9191.1])] (fun ac hA K hK => ?_) rfl rfl, trivial⟩
      refine z_bsl (d := k41) (e := 41) (ps := #[(0, .agg #[.int .i64 x9136, .int .i64 x9137, .int .u64 y9139.1, .int .u64 y9149.1, .int .i64 y9160.1, .int .i64 y9170.1, str y9181.1, str y9191.1])]) (cells := [.int .i64 x9136, .int .i64 x9137, .int .u64 y9139.1, .int .u64 y9149.1, .int .i64 y9160.1, .int .i64 y9170.1, str y9181.1, str y9191.1]) (xs := [(⟨x9136, x9137, y9139.1, y9149.1, y9160.1, y9170.1, y9181.1, y9191.1⟩ : S41)]) (fun w => by kernel_rfl) rfl ⟨[.int .i64 x9136, .int .i64 x9137, .int .u64 y9139.1, .int .u64 y9149.1, .int .i64 y9160.1, .int .i64 y9170.1, str y9181.1, str y9191.1], _, rfl, rfl, rfl⟩ hA hS (fun g9292 w hS => ?_) rfl rfl rfl
      refine hK _ [] _ rfl ?_
      refine dEff [0, 1, 2, 3, 4] [7] (by kernel_rfl) ⟨pu rfl rfl [(0, .pointer (some ⟨g0, 0, none⟩))] (fun ac hA => y_move hA rfl rfl) rfl rfl, pu rfl rfl [(0, .pointer (some ⟨g0, 0, none⟩))] (fun ac hA => y_move hA rfl rfl) rfl rfl, pu rfl rfl [(122, .pointer (some ⟨g0, 0, none⟩))] (fun ac hA => r_nilCheck rfl (hA.ev rfl)) rfl rfl, pu rfl rfl [(123, .pointer (some ⟨g0, 0, none⟩))] (fun ac hA => y_fab fa83_2 hA rfl rfl) rfl rfl, pu rfl rfl [(124, .pointer (some ⟨g0, 2, none⟩))] (fun ac hA => y_ld Tryd.underlying38 (hS.cell 1 rfl 2 _ rfl) hA rfl rfl rfl) rfl rfl, trivial⟩ (by kernel_rfl) (by kernel_rfl) ⟨ef rfl [(125, .slice A6353 n6354 c6355), (127, .slice (some ⟨g9292, 0, none⟩) 1 1)] (fun ac hA K hK => ?_) rfl rfl, trivial⟩
      obtain ⟨h9293, hF⟩ := chk_some hF
      have hr := hS.rd 0 rfl
      refine z_app 4 inf41 Tryd.underlying38 hA hS hr.1 hr.2.1 h9293 rfl (fun A9294 n9295 c9296 w hS => ?_) rfl rfl rfl rfl rfl rfl
      refine hK _ [(8, .pointer (some ⟨g0, 0, none⟩)), (9, .pointer (some ⟨g0, 2, none⟩))] _ rfl ?_
      refine dEff [0, 8, 9] [10] (by kernel_rfl) ⟨pu rfl rfl [(0, .pointer (some ⟨g0, 0, none⟩))] (fun ac hA => y_move hA rfl rfl) rfl rfl, pu rfl rfl [(121, .pointer (some ⟨g0, 0, none⟩))] (fun ac hA => r_nilCheck rfl (hA.ev rfl)) rfl rfl, pu rfl rfl [(129, .pointer (some ⟨g0, 0, none⟩))] (fun ac hA => y_fab fa83_2 hA rfl rfl) rfl rfl, trivial⟩ (by kernel_rfl) (by kernel_rfl) ⟨ef rfl [(128, .slice A9294 n9295 c9296), (130, .pointer (some ⟨g0, 2, none⟩))] (fun ac hA K hK => ?_) rfl rfl, trivial⟩
      refine z_stb 2 sz38 hA hS rfl (fun  w hS => ?_) rfl rfl rfl rfl rfl rfl
      refine hK _ [] _ rfl ?_
      refine dEnd [] (by kernel_rfl) trivial ⟨by kernel_rfl, by kernel_rfl⟩ [(0, .pointer (some ⟨g0, 0, none⟩)), (1, .pointer (some ⟨g1, 0, none⟩)), (26, .int .u64 y126.1), (27, .int .u64 x6361)] rfl (fun ac hA => ?_)
      refine hKx8681 _ _ ?_
      refine hK7917 _ _ ?_
      refine wp_reg ?_
      obtain ⟨x9297, h9298, hF⟩ := ltt_ hF
      refine x_v (v := .int .u64 x9297) hA (rv_i h9298 (r_add rfl (hA.ev rfl) (hA.ev rfl))) rfl fun ac hA => ?_
      refine x_m hA rfl fun ac hA => ?_
      refine wpList_nil ?_
      replace hS := hS.drop 2
      replace hS := hS.drop 3
      replace hS := hS.pk 1
      replace hS := hS.pk 2
      replace hS := hS.pk 2
      cases hF
      exact ⟨_, N7912_ _ rfl, A9294, n9295, c9296, A9288, n9289, c9290, h9291, hA.sub _ rfl, hS⟩
     refine ws fun K9299 hK9299 => ?_
     refine x_m hA rfl fun ac hA => ?_
     refine x_v hA (r_gtI rfl (hA.ev rfl) (hA.ev rfl)) rfl fun ac hA => ?_
     refine wn (hK9299 _ _ ?_)
     refine c_if hA rfl (fun hb9300 => ?_) fun hb9300 => ?_
     ·replace hF := ift hb9300 hF
      refine wp_draw [0, 0, 2, 0, 8, 24, 56, 0, 128, 504, 1016, 2040, 4088, 8190, 16382, 32766, 65534, 32766, 163838, 425982, 950270, 32766, 2129918, 8290302, 16678910, 33456126, 67108862, 134217726, 268435455] [28] rfl hA hS (by kernel_rfl) (by kernel_rfl) (by kernel_rfl) (by kernel_rfl) fun w hS => ?_
      obtain ⟨x9301, h9302, hF⟩ := ltt_ hF
      obtain ⟨x9303, h9304, hF⟩ := bnd hF
      obtain ⟨cs, hV, hc9305⟩ := el (hS.rd 3 rfl) h9304
      obtain rfl := hV
      obtain ⟨x9306, h9307, hF⟩ := ltt_ hF
      refine bcase (b := y9139.1 == x9306) (fun hb9308 => ?_) fun hb9308 => ?_
      ·replace hF := ift hb9308 hF
       obtain ⟨cs, hV, hc9309⟩ := el (hS.rd 3 rfl) h9304
       obtain rfl := hV
       refine ⟨[(0, .pointer (some ⟨g1, 0, none⟩)), (1, .pointer (some ⟨g9135, 2, none⟩)), (2, .int .u64 y9139.1), (3, .pointer (some ⟨g0, 0, none⟩)), (4, .pointer (some ⟨g0, 0, none⟩)), (5, .pointer (some ⟨g0, 2, none⟩)), (6, .slice A6353 n6354 c6355), (7, .int .u64 x6361), (8, .int .u64 x9301), (9, .pointer (some (ea A6353 (x9301.toNat * 8)))), (10, .pointer (some (ea A6353 (x9301.toNat * 8 + 3)))), (11, .int .u64 x9303.f3), (12, .int .u64 x9306), (13, .bool (y9139.1 == x9306)), (14, .bool (y9139.1 == x9306)), (15, .pointer (some ⟨g9135, 1, none⟩)), (16, .int .i64 x9137), (17, .pointer (some ⟨g0, 0, none⟩)), (18, .pointer (some ⟨g0, 0, none⟩)), (19, .pointer (some ⟨g0, 2, none⟩)), (20, .slice A6353 n6354 c6355), (21, .int .u64 x6361), (22, .int .u64 x9301), (23, .pointer (some (ea A6353 (x9301.toNat * 8)))), (24, .pointer (some (ea A6353 (x9301.toNat * 8 + 1)))), (25, .int .i64 x9303.f1), (26, .bool (decide (x9303.f1 < x9137))), (27, .bool (decide (x9303.f1 < x9137)))], ?_⟩
       refine dEff [0, 1, 2, 3, 4, 5, 6, 7, 8, 9, 10, 11, 12, 13, 14, 15, 16, 17, 18, 19, 20, 21, 22, 23, 24, 25, 26, 27] [28] (by kernel_rfl) ⟨pu rfl rfl [(1, .pointer (some ⟨g1, 0, none⟩))] (fun ac hA => y_move hA rfl rfl) rfl rfl, pu rfl rfl [(6, .pointer (some ⟨g9135, 0, none⟩))] (fun ac hA => y_fab fa41_2 hA rfl rfl) rfl rfl, pu rfl rfl [(88, .pointer (some ⟨g9135, 2, none⟩))] (fun ac hA => y_ld Tryd.underlying31 (hS.cell 2 rfl 2 _ rfl) hA rfl rfl rfl) rfl rfl, pu rfl rfl [(0, .pointer (some ⟨g0, 0, none⟩))] (fun ac hA => y_move hA rfl rfl) rfl rfl, pu rfl rfl [(90, .pointer (some ⟨g0, 0, none⟩))] (fun ac hA => r_nilCheck rfl (hA.ev rfl)) rfl rfl, pu rfl rfl [(91, .pointer (some ⟨g0, 0, none⟩))] (fun ac hA => y_fab fa83_2 hA rfl rfl) rfl rfl, pu rfl rfl [(92, .pointer (some ⟨g0, 2, none⟩))] (fun ac hA => y_ld Tryd.underlying38 (hS.cell 0 rfl 2 _ rfl) hA rfl rfl rfl) rfl rfl, pu rfl rfl [(5, .int .u64 x6361)] (fun ac hA => y_move hA rfl rfl) rfl rfl, pu rfl rfl [(94, .int .u64 x6361)] (fun ac hA => (rv_i h9302 (r_sub rfl (hA.ev rfl) (hA.ev rfl)) : RunV _ _ _ _ (.int .u64 x9301))) rfl rfl, pu rfl rfl [(93, .slice A6353 n6354 c6355), (95, .int .u64 x9301)] (fun ac hA => y_ia Tryd.underlying38 sz41 (hS.rd 3 rfl) h9304 hA rfl rfl rfl) rfl rfl, pu rfl rfl [(96, .pointer (some (ea A6353 (x9301.toNat * 8))))] (fun ac hA => y_fae (m := x9301.toNat * 8) fa41_3 hA rfl rfl) rfl rfl, pu rfl rfl [(97, .pointer (some (ea A6353 (x9301.toNat * 8 + 3))))] (fun ac hA => y_ld Tryd.underlying31 (hc9305 3 _ rfl) hA rfl rfl rfl) rfl rfl, pu rfl rfl [(98, .int .u64 x9303.f3)] (fun ac hA => (rv_i h9307 (r_add rfl (hA.ev rfl) (hA.ev rfl)) : RunV _ _ _ _ (.int .u64 x9306))) rfl rfl, pu rfl rfl [(89, .int .u64 y9139.1), (99, .int .u64 x9306)] (fun ac hA => r_eqI rfl (hA.ev rfl) (hA.ev rfl)) rfl rfl, pu rfl rfl [(100, .bool (y9139.1 == x9306))] (fun ac hA => y_move hA rfl rfl) rfl rfl, puOn rfl rfl rfl rfl [(6, .pointer (some ⟨g9135, 0, none⟩)), (101, .bool (y9139.1 == x9306))] rfl hb9308 (fun ac hA => y_fab fa41_1 hA rfl rfl) rfl, puOn rfl rfl rfl rfl [(101, .bool (y9139.1 == x9306)), (102, .pointer (some ⟨g9135, 1, none⟩))] rfl hb9308 (fun ac hA => y_ld Tryd.underlying3 (hS.cell 2 rfl 1 _ rfl) hA rfl rfl rfl) rfl, puOn rfl rfl rfl rfl [(0, .pointer (some ⟨g0, 0, none⟩)), (101, .bool (y9139.1 == x9306))] rfl hb9308 (fun ac hA => y_move hA rfl rfl) rfl, puOn rfl rfl rfl rfl [(101, .bool (y9139.1 == x9306)), (104, .pointer (some ⟨g0, 0, none⟩))] rfl hb9308 (fun ac hA => r_nilCheck rfl (hA.ev rfl)) rfl, puOn rfl rfl rfl rfl [(101, .bool (y9139.1 == x9306)), (105, .pointer (some ⟨g0, 0, none⟩))] rfl hb9308 (fun ac hA => y_fab fa83_2 hA rfl rfl) rfl, puOn rfl rfl rfl rfl [(101, .bool (y9139.1 == x9306)), (106, .pointer (some ⟨g0, 2, none⟩))] rfl hb9308 (fun ac hA => y_ld Tryd.underlying38 (hS.cell 0 rfl 2 _ rfl) hA rfl rfl rfl) rfl, puOn rfl rfl rfl rfl [(5, .int .u64 x6361), (101, .bool (y9139.1 == x9306))] rfl hb9308 (fun ac hA => y_move hA rfl rfl) rfl, puOn rfl rfl rfl rfl [(101, .bool (y9139.1 == x9306)), (108, .int .u64 x6361)] rfl hb9308 (fun ac hA => (rv_i h9302 (r_sub rfl (hA.ev rfl) (hA.ev rfl)) : RunV _ _ _ _ (.int .u64 x9301))) rfl, puOn rfl rfl rfl rfl [(101, .bool (y9139.1 == x9306)), (107, .slice A6353 n6354 c6355), (109, .int .u64 x9301)] rfl hb9308 (fun ac hA => y_ia Tryd.underlying38 sz41 (hS.rd 3 rfl) h9304 hA rfl rfl rfl) rfl, puOn rfl rfl rfl rfl [(101, .bool (y9139.1 == x9306)), (110, .pointer (some (ea A6353 (x9301.toNat * 8))))] rfl hb9308 (fun ac hA => y_fae (m := x9301.toNat * 8) fa41_1 hA rfl rfl) rfl, puOn rfl rfl rfl rfl [(101, .bool (y9139.1 == x9306)), (111, .pointer (some (ea A6353 (x9301.toNat * 8 + 1))))] rfl hb9308 (fun ac hA => y_ld Tryd.underlying3 (hc9309 1 _ rfl) hA rfl rfl rfl) rfl, puOn rfl rfl rfl rfl [(101, .bool (y9139.1 == x9306)), (103, .int .i64 x9137), (112, .int .i64 x9303.f1)] rfl hb9308 (fun ac hA => r_gtI rfl (hA.ev rfl) (hA.ev rfl)) rfl, pu rfl rfl [(101, .bool (y9139.1 == x9306)), (113, .bool (decide (x9303.f1 < x9137)))] (fun ac hA => y_pickt hb9308 hA rfl rfl rfl) rfl rfl, trivial⟩ (by kernel_rfl) (by kernel_rfl) ⟨ef rfl [(87, .pointer (some ⟨g1, 0, none⟩)), (114, .bool (decide (x9303.f1 < x9137)))] (fun ac hA K hK => ?_) rfl rfl, trivial⟩
       replace hS := SH.pure_ h9244 hS
       replace hS := hS.pk 2
       replace hS := obj106_mk (x := (⟨l9240⟩ : S106)) hS
       obtain ⟨y9310, h9311, hF⟩ := bnd hF
       rcases y9310 with y9310 | y9310
       rotate_left
       ·replace hF := sum_r hF
        refine z_callp (vs := #[.pointer (some ⟨g1, 0, none⟩), .bool (decide (x9303.f1 < x9137))]) en59 hA (RetS.rf (F_column_Reader_Check (L := blk g0 83 [.slice A101 n102 c103, .int .i64 x123, .slice A6353 n6354 c6355] :: blk g9135 41 [.int .i64 x9136, .int .i64 x9137, .int .u64 y9139.1, .int .u64 y9149.1, .int .i64 y9160.1, .int .i64 y9170.1, str y9181.1, str y9191.1] :: own k41 41 A6353 n6354 c6355 l6352 :: L) (⟨l9240⟩ : S106) (decide (x9303.f1 < x9137)) g1 h9311 (qz + 3) hZ hS)) (fun w hR => ?_) rfl rfl rfl rfl
        replace hS := hR
        obtain ⟨A9312, n9313, c9314, hS⟩ := obj106_open hS
        replace hS := hS.pk 1
        have hQ0 := SH.unpure hS
        clear hS
        obtain ⟨h9315, hS⟩ := hQ0
        replace hS := SH.pure_ h104 hS
        replace hS := hS.pk 4
        replace hS := hS.pk 3
        replace hS := obj83_mk (x := (⟨a0.f0, x123, l6352⟩ : S83)) hS
        replace hS := SH.pure_ h9315 hS
        replace hS := hS.pk 2
        replace hS := obj106_mk (x := y9310) hS
        replace hS := hS.drop 2
        replace hS := hS.pk 1
        cases hF
        have ht := T7912_ _ rfl
        subst ht
        replace hF := hR7912
        replace hF : some (.inr ((⟨a0.f0, x123, l6352⟩ : S83), y9310)) = some y := hF
        cases hF
        exact hQp _ rfl _ _ hA.defers hS
       replace hF := sum_l hF
       refine z_callw (vs := #[.pointer (some ⟨g1, 0, none⟩), .bool (decide (x9303.f1 < x9137))]) en59 hA (RetS.lf (F_column_Reader_Check (L := blk g0 83 [.slice A101 n102 c103, .int .i64 x123, .slice A6353 n6354 c6355] :: blk g9135 41 [.int .i64 x9136, .int .i64 x9137, .int .u64 y9139.1, .int .u64 y9149.1, .int .i64 y9160.1, .int .i64 y9170.1, str y9181.1, str y9191.1] :: own k41 41 A6353 n6354 c6355 l6352 :: L) (⟨l9240⟩ : S106) (decide (x9303.f1 < x9137)) g1 h9311 (qz + 3) hZ hS)) (fun v w hR => ?_) rfl rfl rfl rfl
       obtain ⟨rfl, hS⟩ := hR
       obtain ⟨A9316, n9317, c9318, hS⟩ := obj106_open hS
       replace hS := hS.pk 1
       have hQ0 := SH.unpure hS
       clear hS
       obtain ⟨h9319, hS⟩ := hQ0
       refine hK _ [] _ rfl ?_
       refine dEnd [] (by kernel_rfl) trivial ⟨by kernel_rfl, by kernel_rfl⟩ [(0, .pointer (some ⟨g0, 0, none⟩)), (1, .pointer (some ⟨g1, 0, none⟩)), (6, .pointer (some ⟨g9135, 0, none⟩)), (26, .int .u64 y126.1), (27, .int .u64 x6361), (102, .pointer (some ⟨g9135, 1, none⟩)), (103, .int .i64 x9137), (104, .pointer (some ⟨g0, 0, none⟩)), (105, .pointer (some ⟨g0, 0, none⟩)), (106, .pointer (some ⟨g0, 2, none⟩)), (107, .slice A6353 n6354 c6355), (108, .int .u64 x6361), (109, .int .u64 x9301), (112, .int .i64 x9303.f1), (113, .bool (decide (x9303.f1 < x9137)))] rfl (fun ac hA => ?_)
       replace hS := hS.pk 3
       replace hS := hS.pk 3
       replace hS := hS.pk 2
       replace hS := hS.pk 3
       exact hj4 y9310.f0 hF A9316 n9317 c9318 h9319 ac w (hA.sub _ rfl) hS
      replace hF := iff' hb9308 hF
      refine ⟨[(0, .pointer (some ⟨g1, 0, none⟩)), (1, .pointer (some ⟨g9135, 2, none⟩)), (2, .int .u64 y9139.1), (3, .pointer (some ⟨g0, 0, none⟩)), (4, .pointer (some ⟨g0, 0, none⟩)), (5, .pointer (some ⟨g0, 2, none⟩)), (6, .slice A6353 n6354 c6355), (7, .int .u64 x6361), (8, .int .u64 x9301), (9, .pointer (some (ea A6353 (x9301.toNat * 8)))), (10, .pointer (some (ea A6353 (x9301.toNat * 8 + 3)))), (11, .int .u64 x9303.f3), (12, .int .u64 x9306), (13, .bool (y9139.1 == x9306)), (14, .bool (y9139.1 == x9306)), (15, undef), (16, undef), (17, undef), (18, undef), (19, undef), (20, undef), (21, undef), (22, undef), (23, undef), (24, undef), (25, undef), (26, undef), (27, .bool false)], ?_⟩
      refine dEff [0, 1, 2, 3, 4, 5, 6, 7, 8, 9, 10, 11, 12, 13, 14, 15, 16, 17, 18, 19, 20, 21, 22, 23, 24, 25, 26, 27] [28] (by kernel_rfl) ⟨pu rfl rfl [(1, .pointer (some ⟨g1, 0, none⟩))] (fun ac hA => y_move hA rfl rfl) rfl rfl, pu rfl rfl [(6, .pointer (some ⟨g9135, 0, none⟩))] (fun ac hA => y_fab fa41_2 hA rfl rfl) rfl rfl, pu rfl rfl [(88, .pointer (some ⟨g9135, 2, none⟩))] (fun ac hA => y_ld Tryd.underlying31 (hS.cell 2 rfl 2 _ rfl) hA rfl rfl rfl) rfl rfl, pu rfl rfl [(0, .pointer (some ⟨g0, 0, none⟩))] (fun ac hA => y_move hA rfl rfl) rfl rfl, pu rfl rfl [(90, .pointer (some ⟨g0, 0, none⟩))] (fun ac hA => r_nilCheck rfl (hA.ev rfl)) rfl rfl, pu rfl rfl [(91, .pointer (some ⟨g0, 0, none⟩))] (fun ac hA => y_fab fa83_2 hA rfl rfl) rfl rfl, pu rfl rfl [(92, .pointer (some ⟨g0, 2, none⟩))] (fun ac hA => y_ld Tryd.underlying38 (hS.cell 0 rfl 2 _ rfl) hA rfl rfl rfl) rfl rfl, pu rfl rfl [(5, .int .u64 x6361)] (fun ac hA => y_move hA rfl rfl) rfl rfl, pu rfl rfl [(94, .int .u64 x6361)] (fun ac hA => (rv_i h9302 (r_sub rfl (hA.ev rfl) (hA.ev rfl)) : RunV _ _ _ _ (.int .u64 x9301))) rfl rfl, pu rfl rfl [(93, .slice A6353 n6354 c6355), (95, .int .u64 x9301)] (fun ac hA => y_ia Tryd.underlying38 sz41 (hS.rd 3 rfl) h9304 hA rfl rfl rfl) rfl rfl, pu rfl rfl [(96, .pointer (some (ea A6353 (x9301.toNat * 8))))] (fun ac hA => y_fae (m := x9301.toNat * 8) fa41_3 hA rfl rfl) rfl rfl, pu rfl rfl [(97, .pointer (some (ea A6353 (x9301.toNat * 8 + 3))))] (fun ac hA => y_ld Tryd.underlying31 (hc9305 3 _ rfl) hA rfl rfl rfl) rfl rfl, pu rfl rfl [(98, .int .u64 x9303.f3)] (fun ac hA => (rv_i h9307 (r_add rfl (hA.ev rfl) (hA.ev rfl)) : RunV _ _ _ _ (.int .u64 x9306))) rfl rfl, pu rfl rfl [(89, .int .u64 y9139.1), (99, .int .u64 x9306)] (fun ac hA => r_eqI rfl (hA.ev rfl) (hA.ev rfl)) rfl rfl, pu rfl rfl [(100, .bool (y9139.1 == x9306))] (fun ac hA => y_move hA rfl rfl) rfl rfl, puOff rfl rfl rfl rfl [(6, .pointer (some ⟨g9135, 0, none⟩)), (101, .bool (y9139.1 == x9306))] rfl hb9308 rfl, puOff rfl rfl rfl rfl [(101, .bool (y9139.1 == x9306)), (102, undef)] rfl hb9308 rfl, puOff rfl rfl rfl rfl [(0, .pointer (some ⟨g0, 0, none⟩)), (101, .bool (y9139.1 == x9306))] rfl hb9308 rfl, puOff rfl rfl rfl rfl [(101, .bool (y9139.1 == x9306)), (104, undef)] rfl hb9308 rfl, puOff rfl rfl rfl rfl [(101, .bool (y9139.1 == x9306)), (105, undef)] rfl hb9308 rfl, puOff rfl rfl rfl rfl [(101, .bool (y9139.1 == x9306)), (106, undef)] rfl hb9308 rfl, puOff rfl rfl rfl rfl [(5, .int .u64 x6361), (101, .bool (y9139.1 == x9306))] rfl hb9308 rfl, puOff rfl rfl rfl rfl [(101, .bool (y9139.1 == x9306)), (108, undef)] rfl hb9308 rfl, puOff rfl rfl rfl rfl [(101, .bool (y9139.1 == x9306)), (107, undef), (109, undef)] rfl hb9308 rfl, puOff rfl rfl rfl rfl [(101, .bool (y9139.1 == x9306)), (110, undef)] rfl hb9308 rfl, puOff rfl rfl rfl rfl [(101, .bool (y9139.1 == x9306)), (111, undef)] rfl hb9308 rfl, puOff rfl rfl rfl rfl [(101, .bool (y9139.1 == x9306)), (103, undef), (112, undef)] rfl hb9308 rfl, pu rfl rfl [(101, .bool (y9139.1 == x9306)), (113, undef)] (fun ac hA => y_pickf hb9308 hA rfl rfl rfl) rfl rfl, trivial⟩ (by kernel_rfl) (by kernel_rfl) ⟨ef rfl [(87, .pointer (some ⟨g1, 0, none⟩)), (114, .bool false)] (fun ac hA K hK => ?_) rfl rfl, trivial⟩
      replace hS := SH.pure_ h9244 hS
      replace hS := hS.pk 2
      replace hS := obj106_mk (x := (⟨l9240⟩ : S106)) hS
      obtain ⟨y9320, h9321, hF⟩ := bnd hF
      rcases y9320 with y9320 | y9320
      rotate_left
      ·replace hF := sum_r hF
       refine z_callp (vs := #[.pointer (some ⟨g1, 0, none⟩), .bool false]) en59 hA (RetS.rf (F_column_Reader_Check (L := blk g0 83 [.slice A101 n102 c103, .int .i64 x123, .slice A6353 n6354 c6355] :: blk g9135 41 [.int .i64 x9136, .int .i64 x9137, .int .u64 y9139.1, .int .u64 y9149.1, .int .i64 y9160.1, .int .i64 y9170.1, str y9181.1, str y9191.1] :: own k41 41 A6353 n6354 c6355 l6352 :: L) (⟨l9240⟩ : S106) false g1 h9321 (qz + 3) hZ hS)) (fun w hR => ?_) rfl rfl rfl rfl
       replace hS := hR
       obtain ⟨A9322, n9323, c9324, hS⟩ := obj106_open hS
       replace hS := hS.pk 1
       have hQ0 := SH.unpure hS
       clear hS
       obtain ⟨h9325, hS⟩ := hQ0
       replace hS := SH.pure_ h104 hS
       replace hS := hS.pk 4
       replace hS := hS.pk 3
       replace hS := obj83_mk (x := (⟨a0.f0, x123, l6352⟩ : S83)) hS
       replace hS := SH.pure_ h9325 hS
       replace hS := hS.pk 2
       replace hS := obj106_mk (x := y9320) hS
       replace hS := hS.drop 2
       replace hS := hS.pk 1
       cases hF
       have ht := T7912_ _ rfl
       subst ht
       replace hF := hR7912
       replace hF : some (.inr ((⟨a0.f0, x123, l6352⟩ : S83), y9320)) = some y := hF
       cases hF
       exact hQp _ rfl _ _ hA.defers hS
      replace hF := sum_l hF
      refine z_callw (vs := #[.pointer (some ⟨g1, 0, none⟩), .bool false]) en59 hA (RetS.lf (F_column_Reader_Check (L := blk g0 83 [.slice A101 n102 c103, .int .i64 x123, .slice A6353 n6354 c6355] :: blk g9135 41 [.int .i64 x9136, .int .i64 x9137, .int .u64 y9139.1, .int .u64 y9149.1, .int .i64 y9160.1, .int .i64 y9170.1, str y9181.1, str y9191.1] :: own k41 41 A6353 n6354 c6355 l6352 :: L) (⟨l9240⟩ : S106) false g1 h9321 (qz + 3) hZ hS)) (fun v w hR => ?_) rfl rfl rfl rfl
      obtain ⟨rfl, hS⟩ := hR
      obtain ⟨A9326, n9327, c9328, hS⟩ := obj106_open hS
      replace hS := hS.pk 1
      have hQ0 := SH.unpure hS
      clear hS
      obtain ⟨h9329, hS⟩ := hQ0
      refine hK _ [] _ rfl ?_
      refine dEnd [] (by kernel_rfl) trivial ⟨by kernel_rfl, by kernel_rfl⟩ [(0, .pointer (some ⟨g0, 0, none⟩)), (1, .pointer (some ⟨g1, 0, none⟩)), (6, .pointer (some ⟨g9135, 0, none⟩)), (26, .int .u64 y126.1), (27, .int .u64 x6361)] rfl (fun ac hA => ?_)
      replace hS := hS.pk 3
      replace hS := hS.pk 3
      replace hS := hS.pk 2
      replace hS := hS.pk 3
      exact hj4 y9320.f0 hF A9326 n9327 c9328 h9329 ac w (hA.sub _ rfl) hS
     replace hF := iff' hb9300 hF
     refine wp_reg ?_
     refine x_m hA rfl fun ac hA => ?_
     refine x_fab fa41_1 hA (fun ac hA => ?_) rfl rfl rfl rfl rfl
     refine x_ld Tryd.underlying3 (hS.cell 2 rfl 1 _ rfl) hA (fun ac hA => ?_) rfl rfl rfl rfl rfl rfl
     refine x_v hA (r_eqI rfl (hA.ev rfl) (hA.ev rfl)) rfl fun ac hA => ?_
     replace hS := SH.pure_ h9244 hS
     replace hS := hS.pk 2
     replace hS := obj106_mk (x := (⟨l9240⟩ : S106)) hS
     obtain ⟨y9330, h9331, hF⟩ := bnd hF
     rcases y9330 with y9330 | y9330
     rotate_left
     ·replace hF := sum_r hF
      refine x_callp (vs := #[.pointer (some ⟨g1, 0, none⟩), .bool (x9137 == 0)]) en59 hA (RetS.rf (F_column_Reader_Check (L := blk g0 83 [.slice A101 n102 c103, .int .i64 x123, .slice A6353 n6354 c6355] :: blk g9135 41 [.int .i64 x9136, .int .i64 x9137, .int .u64 y9139.1, .int .u64 y9149.1, .int .i64 y9160.1, .int .i64 y9170.1, str y9181.1, str y9191.1] :: own k41 41 A6353 n6354 c6355 l6352 :: L) (⟨l9240⟩ : S106) (x9137 == 0) g1 h9331 (qz + 3) hZ hS)) (fun w hR => ?_) rfl rfl rfl rfl rfl
      replace hS := hR
      obtain ⟨A9332, n9333, c9334, hS⟩ := obj106_open hS
      replace hS := hS.pk 1
      have hQ0 := SH.unpure hS
      clear hS
      obtain ⟨h9335, hS⟩ := hQ0
      replace hS := SH.pure_ h104 hS
      replace hS := hS.pk 4
      replace hS := hS.pk 3
      replace hS := obj83_mk (x := (⟨a0.f0, x123, l6352⟩ : S83)) hS
      replace hS := SH.pure_ h9335 hS
      replace hS := hS.pk 2
      replace hS := obj106_mk (x := y9330) hS
      replace hS := hS.drop 2
      replace hS := hS.pk 1
      cases hF
      have ht := T7912_ _ rfl
      subst ht
      replace hF := hR7912
      replace hF : some (.inr ((⟨a0.f0, x123, l6352⟩ : S83), y9330)) = some y := hF
      cases hF
      exact hQp _ rfl _ _ hA.defers hS
     replace hF := sum_l hF
     refine x_callw (vs := #[.pointer (some ⟨g1, 0, none⟩), .bool (x9137 == 0)]) en59 hA (RetS.lf (F_column_Reader_Check (L := blk g0 83 [.slice A101 n102 c103, .int .i64 x123, .slice A6353 n6354 c6355] :: blk g9135 41 [.int .i64 x9136, .int .i64 x9137, .int .u64 y9139.1, .int .u64 y9149.1, .int .i64 y9160.1, .int .i64 y9170.1, str y9181.1, str y9191.1] :: own k41 41 A6353 n6354 c6355 l6352 :: L) (⟨l9240⟩ : S106) (x9137 == 0) g1 h9331 (qz + 3) hZ hS)) (fun v ac w hR hA => ?_) rfl rfl rfl rfl rfl rfl rfl
     obtain ⟨rfl, hS⟩ := hR
     obtain ⟨A9336, n9337, c9338, hS⟩ := obj106_open hS
     replace hS := hS.pk 1
     have hQ0 := SH.unpure hS
     clear hS
     obtain ⟨h9339, hS⟩ := hQ0
     refine wpList_nil ?_
     replace hS := hS.pk 3
     replace hS := hS.pk 3
     replace hS := hS.pk 2
     replace hS := hS.pk 3
     exact hj4 y9330.f0 hF A9336 n9337 c9338 h9339 ac w (hA.sub _ rfl) hS
    refine wp_reg ?_
    refine x_m hA rfl fun ac hA => ?_
    refine x_fab fa41_0 hA (fun ac hA => ?_) rfl rfl rfl rfl rfl
    refine x_ld Tryd.underlying3 (hS.cell 0 rfl 0 _ rfl) hA (fun ac hA => ?_) rfl rfl rfl rfl rfl rfl
    refine x_v hA (r_gtI rfl (hA.ev rfl) (hA.ev rfl)) rfl fun ac hA => ?_
    refine x_m hA rfl fun ac hA => ?_
    refine bcase (b := decide (0 < x9136)) (fun hb9340 => ?_) fun hb9340 => ?_
    ·replace hF := ift hb9340 hF
     refine x_on hb9340 hA ?_ rfl rfl rfl
     refine x_fab fa41_3 hA (fun ac hA => ?_) rfl rfl rfl rfl rfl
     refine x_on hb9340 hA ?_ rfl rfl rfl
     refine x_ld Tryd.underlying31 (hS.cell 0 rfl 3 _ rfl) hA (fun ac hA => ?_) rfl rfl rfl rfl rfl rfl
     refine x_on hb9340 hA ?_ rfl rfl rfl
     refine x_fab fa41_2 hA (fun ac hA => ?_) rfl rfl rfl rfl rfl
     refine x_on hb9340 hA ?_ rfl rfl rfl
     refine x_ld Tryd.underlying31 (hS.cell 0 rfl 2 _ rfl) hA (fun ac hA => ?_) rfl rfl rfl rfl rfl rfl
     refine x_on hb9340 hA ?_ rfl rfl rfl
     obtain ⟨x9341, h9342, hF⟩ := ltt_ hF
     refine x_v (v := .int .u64 x9341) hA (rv_i h9342 (r_sub rfl (hA.ev rfl) (hA.ev rfl))) rfl fun ac hA => ?_
     refine x_on hb9340 hA ?_ rfl rfl rfl
     refine x_fab fa41_0 hA (fun ac hA => ?_) rfl rfl rfl rfl rfl
     refine x_on hb9340 hA ?_ rfl rfl rfl
     refine x_ld Tryd.underlying3 (hS.cell 0 rfl 0 _ rfl) hA (fun ac hA => ?_) rfl rfl rfl rfl rfl rfl
     refine x_on hb9340 hA ?_ rfl rfl rfl
     obtain ⟨x9343, h9344, hF⟩ := ltt_ hF
     refine x_v (v := .int .i64 x9343) hA (rv_i h9344 (r_sub rfl (hA.ev rfl) (hA.ev rfl))) rfl fun ac hA => ?_
     refine x_on hb9340 hA ?_ rfl rfl rfl
     obtain ⟨x9345, h9346, hF⟩ := ltt_ hF
     refine x_v (v := .int .u64 x9345) hA (rv_i h9346 (r_convI Tryd.underlying3 Tryd.underlying31 rfl (hA.ev rfl))) rfl fun ac hA => ?_
     refine x_on hb9340 hA ?_ rfl rfl rfl
     refine x_v hA (r_eqI rfl (hA.ev rfl) (hA.ev rfl)) rfl fun ac hA => ?_
     refine x_pickt hb9340 hA (fun ac hA => ?_) rfl rfl rfl rfl rfl rfl
     refine x_m hA rfl fun ac hA => ?_
     refine bcase (b := x9341 == x9345) (fun hb9347 => ?_) fun hb9347 => ?_
     ·replace hF := ift hb9347 hF
      refine x_on hb9347 hA ?_ rfl rfl rfl
      refine x_fab fa41_2 hA (fun ac hA => ?_) rfl rfl rfl rfl rfl
      refine x_on hb9347 hA ?_ rfl rfl rfl
      refine x_ld Tryd.underlying31 (hS.cell 0 rfl 2 _ rfl) hA (fun ac hA => ?_) rfl rfl rfl rfl rfl rfl
      refine x_on hb9347 hA ?_ rfl rfl rfl
      refine x_fab fa41_3 hA (fun ac hA => ?_) rfl rfl rfl rfl rfl
      refine x_on hb9347 hA ?_ rfl rfl rfl
      refine x_ld Tryd.underlying31 (hS.cell 0 rfl 3 _ rfl) hA (fun ac hA => ?_) rfl rfl rfl rfl rfl rfl
      refine x_on hb9347 hA ?_ rfl rfl rfl
      refine x_v hA (r_leI rfl (hA.ev rfl) (hA.ev rfl)) rfl fun ac hA => ?_
      refine x_pickt hb9347 hA (fun ac hA => ?_) rfl rfl rfl rfl rfl rfl
      replace hS := SH.pure_ h9200 hS
      replace hS := hS.pk 2
      replace hS := obj106_mk (x := y9191.2) hS
      obtain ⟨y9348, h9349, hF⟩ := bnd hF
      rcases y9348 with y9348 | y9348
      rotate_left
      ·replace hF := sum_r hF
       refine x_callp (vs := #[.pointer (some ⟨g1, 0, none⟩), .bool (decide (y9139.1 ≤ y9149.1))]) en59 hA (RetS.rf (F_column_Reader_Check (L := blk g9135 41 [.int .i64 x9136, .int .i64 x9137, .int .u64 y9139.1, .int .u64 y9149.1, .int .i64 y9160.1, .int .i64 y9170.1, str y9181.1, str y9191.1] :: blk g0 83 [.slice A101 n102 c103, .int .i64 x123, .slice A6353 n6354 c6355] :: own k41 41 A6353 n6354 c6355 l6352 :: L) y9191.2 (decide (y9139.1 ≤ y9149.1)) g1 h9349 (qz + 3) hZ hS)) (fun w hR => ?_) rfl rfl rfl rfl rfl
       replace hS := hR
       obtain ⟨A9350, n9351, c9352, hS⟩ := obj106_open hS
       replace hS := hS.pk 1
       have hQ0 := SH.unpure hS
       clear hS
       obtain ⟨h9353, hS⟩ := hQ0
       replace hS := SH.pure_ h104 hS
       replace hS := hS.pk 4
       replace hS := hS.pk 4
       replace hS := obj83_mk (x := (⟨a0.f0, x123, l6352⟩ : S83)) hS
       replace hS := SH.pure_ h9353 hS
       replace hS := hS.pk 2
       replace hS := obj106_mk (x := y9348) hS
       replace hS := hS.drop 2
       replace hS := hS.pk 1
       cases hF
       have ht := T7912_ _ rfl
       subst ht
       replace hF := hR7912
       replace hF : some (.inr ((⟨a0.f0, x123, l6352⟩ : S83), y9348)) = some y := hF
       cases hF
       exact hQp _ rfl _ _ hA.defers hS
      replace hF := sum_l hF
      refine x_callw (vs := #[.pointer (some ⟨g1, 0, none⟩), .bool (decide (y9139.1 ≤ y9149.1))]) en59 hA (RetS.lf (F_column_Reader_Check (L := blk g9135 41 [.int .i64 x9136, .int .i64 x9137, .int .u64 y9139.1, .int .u64 y9149.1, .int .i64 y9160.1, .int .i64 y9170.1, str y9181.1, str y9191.1] :: blk g0 83 [.slice A101 n102 c103, .int .i64 x123, .slice A6353 n6354 c6355] :: own k41 41 A6353 n6354 c6355 l6352 :: L) y9191.2 (decide (y9139.1 ≤ y9149.1)) g1 h9349 (qz + 3) hZ hS)) (fun v ac w hR hA => ?_) rfl rfl rfl rfl rfl rfl rfl
      obtain ⟨rfl, hS⟩ := hR
      obtain ⟨A9354, n9355, c9356, hS⟩ := obj106_open hS
      replace hS := hS.pk 1
      have hQ0 := SH.unpure hS
      clear hS
      obtain ⟨h9357, hS⟩ := hQ0
      refine wpList_nil ?_
      replace hS := hS.pk 3
      replace hS := hS.pk 2
      replace hS := hS.pk 2
      replace hS := hS.pk 3
      exact hj3 y9348.f0 hF A9354 n9355 c9356 h9357 ac w (hA.sub _ rfl) hS
     replace hF := iff' hb9347 hF
     refine x_off hb9347 hA (fun ac hA => ?_) rfl rfl rfl rfl rfl
     refine x_off hb9347 hA (fun ac hA => ?_) rfl rfl rfl rfl rfl
     refine x_off hb9347 hA (fun ac hA => ?_) rfl rfl rfl rfl rfl
     refine x_off hb9347 hA (fun ac hA => ?_) rfl rfl rfl rfl rfl
     refine x_off hb9347 hA (fun ac hA => ?_) rfl rfl rfl rfl rfl
     refine x_pickf hb9347 hA (fun ac hA => ?_) rfl rfl rfl rfl rfl rfl
     replace hS := SH.pure_ h9200 hS
     replace hS := hS.pk 2
     replace hS := obj106_mk (x := y9191.2) hS
     obtain ⟨y9358, h9359, hF⟩ := bnd hF
     rcases y9358 with y9358 | y9358
     rotate_left
     ·replace hF := sum_r hF
      refine x_callp (vs := #[.pointer (some ⟨g1, 0, none⟩), .bool false]) en59 hA (RetS.rf (F_column_Reader_Check (L := blk g9135 41 [.int .i64 x9136, .int .i64 x9137, .int .u64 y9139.1, .int .u64 y9149.1, .int .i64 y9160.1, .int .i64 y9170.1, str y9181.1, str y9191.1] :: blk g0 83 [.slice A101 n102 c103, .int .i64 x123, .slice A6353 n6354 c6355] :: own k41 41 A6353 n6354 c6355 l6352 :: L) y9191.2 false g1 h9359 (qz + 3) hZ hS)) (fun w hR => ?_) rfl rfl rfl rfl rfl
      replace hS := hR
      obtain ⟨A9360, n9361, c9362, hS⟩ := obj106_open hS
      replace hS := hS.pk 1
      have hQ0 := SH.unpure hS
      clear hS
      obtain ⟨h9363, hS⟩ := hQ0
      replace hS := SH.pure_ h104 hS
      replace hS := hS.pk 4
      replace hS := hS.pk 4
      replace hS := obj83_mk (x := (⟨a0.f0, x123, l6352⟩ : S83)) hS
      replace hS := SH.pure_ h9363 hS
      replace hS := hS.pk 2
      replace hS := obj106_mk (x := y9358) hS
      replace hS := hS.drop 2
      replace hS := hS.pk 1
      cases hF
      have ht := T7912_ _ rfl
      subst ht
      replace hF := hR7912
      replace hF : some (.inr ((⟨a0.f0, x123, l6352⟩ : S83), y9358)) = some y := hF
      cases hF
      exact hQp _ rfl _ _ hA.defers hS
     replace hF := sum_l hF
     refine x_callw (vs := #[.pointer (some ⟨g1, 0, none⟩), .bool false]) en59 hA (RetS.lf (F_column_Reader_Check (L := blk g9135 41 [.int .i64 x9136, .int .i64 x9137, .int .u64 y9139.1, .int .u64 y9149.1, .int .i64 y9160.1, .int .i64 y9170.1, str y9181.1, str y9191.1] :: blk g0 83 [.slice A101 n102 c103, .int .i64 x123, .slice A6353 n6354 c6355] :: own k41 41 A6353 n6354 c6355 l6352 :: L) y9191.2 false g1 h9359 (qz + 3) hZ hS)) (fun v ac w hR hA => ?_) rfl rfl rfl rfl rfl rfl rfl
     obtain ⟨rfl, hS⟩ := hR
     obtain ⟨A9364, n9365, c9366, hS⟩ := obj106_open hS
     replace hS := hS.pk 1
     have hQ0 := SH.unpure hS
     clear hS
     obtain ⟨h9367, hS⟩ := hQ0
     refine wpList_nil ?_
     replace hS := hS.pk 3
     replace hS := hS.pk 2
     replace hS := hS.pk 2
     replace hS := hS.pk 3
     exact hj3 y9358.f0 hF A9364 n9365 c9366 h9367 ac w (hA.sub _ rfl) hS
    replace hF := iff' hb9340 hF
    refine x_off hb9340 hA (fun ac hA => ?_) rfl rfl rfl rfl rfl
    refine x_off hb9340 hA (fun ac hA => ?_) rfl rfl rfl rfl rfl
    refine x_off hb9340 hA (fun ac hA => ?_) rfl rfl rfl rfl rfl
    refine x_off hb9340 hA (fun ac hA => ?_) rfl rfl rfl rfl rfl
    refine x_off hb9340 hA (fun ac hA => ?_) rfl rfl rfl rfl rfl
    refine x_off hb9340 hA (fun ac hA => ?_) rfl rfl rfl rfl rfl
    refine x_off hb9340 hA (fun ac hA => ?_) rfl rfl rfl rfl rfl
    refine x_off hb9340 hA (fun ac hA => ?_) rfl rfl rfl rfl rfl
    refine x_off hb9340 hA (fun ac hA => ?_) rfl rfl rfl rfl rfl
    refine x_off hb9340 hA (fun ac hA => ?_) rfl rfl rfl rfl rfl
    refine x_pickf hb9340 hA (fun ac hA => ?_) rfl rfl rfl rfl rfl rfl
    refine x_m hA rfl fun ac hA => ?_
    refine x_off rfl hA (fun ac hA => ?_) rfl rfl rfl rfl rfl
    refine x_off rfl hA (fun ac hA => ?_) rfl rfl rfl rfl rfl
    refine x_off rfl hA (fun ac hA => ?_) rfl rfl rfl rfl rfl
    refine x_off rfl hA (fun ac hA => ?_) rfl rfl rfl rfl rfl
    refine x_off rfl hA (fun ac hA => ?_) rfl rfl rfl rfl rfl
    refine x_pickf rfl hA (fun ac hA => ?_) rfl rfl rfl rfl rfl rfl
    replace hS := SH.pure_ h9200 hS
    replace hS := hS.pk 2
    replace hS := obj106_mk (x := y9191.2) hS
    obtain ⟨y9368, h9369, hF⟩ := bnd hF
    rcases y9368 with y9368 | y9368
    rotate_left
    ·replace hF := sum_r hF
     refine x_callp (vs := #[.pointer (some ⟨g1, 0, none⟩), .bool false]) en59 hA (RetS.rf (F_column_Reader_Check (L := blk g9135 41 [.int .i64 x9136, .int .i64 x9137, .int .u64 y9139.1, .int .u64 y9149.1, .int .i64 y9160.1, .int .i64 y9170.1, str y9181.1, str y9191.1] :: blk g0 83 [.slice A101 n102 c103, .int .i64 x123, .slice A6353 n6354 c6355] :: own k41 41 A6353 n6354 c6355 l6352 :: L) y9191.2 false g1 h9369 (qz + 3) hZ hS)) (fun w hR => ?_) rfl rfl rfl rfl rfl
     replace hS := hR
     obtain ⟨A9370, n9371, c9372, hS⟩ := obj106_open hS
     replace hS := hS.pk 1
     have hQ0 := SH.unpure hS
     clear hS
     obtain ⟨h9373, hS⟩ := hQ0
     replace hS := SH.pure_ h104 hS
     replace hS := hS.pk 4
     replace hS := hS.pk 4
     replace hS := obj83_mk (x := (⟨a0.f0, x123, l6352⟩ : S83)) hS
     replace hS := SH.pure_ h9373 hS
     replace hS := hS.pk 2
     replace hS := obj106_mk (x := y9368) hS
     replace hS := hS.drop 2
     replace hS := hS.pk 1
     cases hF
     have ht := T7912_ _ rfl
     subst ht
     replace hF := hR7912
     replace hF : some (.inr ((⟨a0.f0, x123, l6352⟩ : S83), y9368)) = some y := hF
     cases hF
     exact hQp _ rfl _ _ hA.defers hS
    replace hF := sum_l hF
    refine x_callw (vs := #[.pointer (some ⟨g1, 0, none⟩), .bool false]) en59 hA (RetS.lf (F_column_Reader_Check (L := blk g9135 41 [.int .i64 x9136, .int .i64 x9137, .int .u64 y9139.1, .int .u64 y9149.1, .int .i64 y9160.1, .int .i64 y9170.1, str y9181.1, str y9191.1] :: blk g0 83 [.slice A101 n102 c103, .int .i64 x123, .slice A6353 n6354 c6355] :: own k41 41 A6353 n6354 c6355 l6352 :: L) y9191.2 false g1 h9369 (qz + 3) hZ hS)) (fun v ac w hR hA => ?_) rfl rfl rfl rfl rfl rfl rfl
    obtain ⟨rfl, hS⟩ := hR
    obtain ⟨A9374, n9375, c9376, hS⟩ := obj106_open hS
    replace hS := hS.pk 1
    have hQ0 := SH.unpure hS
    clear hS
    obtain ⟨h9377, hS⟩ := hQ0
    refine wpList_nil ?_
    replace hS := hS.pk 3
    replace hS := hS.pk 2
    replace hS := hS.pk 2
    replace hS := hS.pk 3
    exact hj3 y9368.f0 hF A9374 n9375 c9376 h9377 ac w (hA.sub _ rfl) hS
   refine wp_draw [0, 1, 3, 0, 0, 16, 48, 112, 240, 496, 1019, 2043, 4095, 0, 16383] [1, 10, 13, 14] rfl hA hS (by kernel_rfl) (by kernel_rfl) (by kernel_rfl) (by kernel_rfl) fun w hS => ?_
   obtain ⟨x9378, h9379, hF⟩ := ltt_ hF
   refine ⟨[(0, .pointer (some ⟨g1, 0, none⟩)), (3, .pointer (some ⟨g1, 0, none⟩)), (4, .pointer (some ⟨g0, 0, none⟩)), (5, .pointer (some ⟨g0, 0, none⟩)), (6, .pointer (some ⟨g0, 0, none⟩)), (7, .slice A101 n102 c103), (8, .int .i64 (a0.f0.length : Int)), (9, .int .u64 x9378)], ?_⟩
   refine dEff [0, 3, 4, 5, 6, 7, 8, 9] [1, 13] (by kernel_rfl) ⟨pu rfl rfl [(1, .pointer (some ⟨g1, 0, none⟩))] (fun ac hA => y_move hA rfl rfl) rfl rfl, pu rfl rfl [(1, .pointer (some ⟨g1, 0, none⟩))] (fun ac hA => y_move hA rfl rfl) rfl rfl, pu rfl rfl [(0, .pointer (some ⟨g0, 0, none⟩))] (fun ac hA => y_move hA rfl rfl) rfl rfl, pu rfl rfl [(34, .pointer (some ⟨g0, 0, none⟩))] (fun ac hA => r_nilCheck rfl (hA.ev rfl)) rfl rfl, pu rfl rfl [(35, .pointer (some ⟨g0, 0, none⟩))] (fun ac hA => y_fab fa83_0 hA rfl rfl) rfl rfl, pu rfl rfl [(36, .pointer (some ⟨g0, 0, none⟩))] (fun ac hA => y_ld Tryd.underlying24 (hS.cell 0 rfl 0 _ rfl) hA rfl rfl rfl) rfl rfl, pu rfl rfl [(37, .slice A101 n102 c103)] (fun ac hA => y_len Tryd.underlying24 (hS.rdl 3 (h104.rdl qz hZ) rfl).2.1 hA rfl rfl) rfl rfl, pu rfl rfl [(38, .int .i64 (a0.f0.length : Int))] (fun ac hA => (rv_i h9379 (r_convI Tryd.underlying3 Tryd.underlying31 rfl (hA.ev rfl)) : RunV _ _ _ _ (.int .u64 x9378))) rfl rfl, trivial⟩ (by kernel_rfl) (by kernel_rfl) ⟨?_, ?_, trivial⟩
   ·refine ef rfl [(30, .pointer (some ⟨g1, 0, none⟩))] (fun ac hA K hK => ?_) rfl rfl
    replace hS := SH.pure_ h6360 hS
    replace hS := hS.pk 2
    replace hS := obj106_mk (x := (⟨l6356⟩ : S106)) hS
    obtain ⟨y9380, h9381, hF⟩ := bnd hF
    rcases y9380 with y9380 | y9380
    rotate_left
    ·replace hF := sum_r hF
     refine z_callp (vs := #[.pointer (some ⟨g1, 0, none⟩), .int .u64 64]) en58 hA (RetS.rf (F_column_Reader_Uint (L := blk g0 83 [.slice A101 n102 c103, .int .i64 x123, .slice A6353 n6354 c6355] :: own k41 41 A6353 n6354 c6355 l6352 :: L) (⟨l6356⟩ : S106) 64 g1 h9381 (qz + 2) hZ hS)) (fun w hR => ?_) rfl rfl rfl rfl
     replace hS := hR
     obtain ⟨A9382, n9383, c9384, hS⟩ := obj106_open hS
     replace hS := hS.pk 1
     have hQ0 := SH.unpure hS
     clear hS
     obtain ⟨h9385, hS⟩ := hQ0
     replace hS := SH.pure_ h104 hS
     replace hS := hS.pk 3
     replace hS := hS.pk 3
     replace hS := obj83_mk (x := (⟨a0.f0, x123, l6352⟩ : S83)) hS
     replace hS := SH.pure_ h9385 hS
     replace hS := hS.pk 2
     replace hS := obj106_mk (x := y9380) hS
     replace hS := hS.pk 1
     cases hF
     have ht := T7912_ _ rfl
     subst ht
     replace hF := hR7912
     replace hF : some (.inr ((⟨a0.f0, x123, l6352⟩ : S83), y9380)) = some y := hF
     cases hF
     exact hQp _ rfl _ _ hA.defers hS
    replace hF := sum_l hF
    refine z_callw (vs := #[.pointer (some ⟨g1, 0, none⟩), .int .u64 64]) en58 hA (RetS.lf (F_column_Reader_Uint (L := blk g0 83 [.slice A101 n102 c103, .int .i64 x123, .slice A6353 n6354 c6355] :: own k41 41 A6353 n6354 c6355 l6352 :: L) (⟨l6356⟩ : S106) 64 g1 h9381 (qz + 2) hZ hS)) (fun v w hR => ?_) rfl rfl rfl rfl
    obtain ⟨rfl, hS⟩ := hR
    obtain ⟨A9386, n9387, c9388, hS⟩ := obj106_open hS
    replace hS := hS.pk 1
    have hQ0 := SH.unpure hS
    clear hS
    obtain ⟨h9389, hS⟩ := hQ0
    obtain ⟨x9390, h9391, hF⟩ := ltt_ hF
    refine hK _ [(2, .int .i64 x9390)] _ rfl ?_
    refine dEff [2, 3, 4, 5, 6, 7, 8, 9] [10, 13] (by kernel_rfl) ⟨pu rfl rfl [(31, .int .u64 y9380.1)] (fun ac hA => (rv_i h9391 (r_convI Tryd.underlying31 Tryd.underlying3 rfl (hA.ev rfl)) : RunV _ _ _ _ (.int .i64 x9390))) rfl rfl, pu rfl rfl [(1, .pointer (some ⟨g1, 0, none⟩))] (fun ac hA => y_move hA rfl rfl) rfl rfl, pu rfl rfl [(0, .pointer (some ⟨g0, 0, none⟩))] (fun ac hA => y_move hA rfl rfl) rfl rfl, pu rfl rfl [(34, .pointer (some ⟨g0, 0, none⟩))] (fun ac hA => r_nilCheck rfl (hA.ev rfl)) rfl rfl, pu rfl rfl [(35, .pointer (some ⟨g0, 0, none⟩))] (fun ac hA => y_fab fa83_0 hA rfl rfl) rfl rfl, pu rfl rfl [(36, .pointer (some ⟨g0, 0, none⟩))] (fun ac hA => y_ld Tryd.underlying24 (hS.cell 1 rfl 0 _ rfl) hA rfl rfl rfl) rfl rfl, pu rfl rfl [(37, .slice A101 n102 c103)] (fun ac hA => y_len Tryd.underlying24 (hS.rdl 3 (h104.rdl qz hZ) rfl).2.1 hA rfl rfl) rfl rfl, pu rfl rfl [(38, .int .i64 (a0.f0.length : Int))] (fun ac hA => (rv_i h9379 (r_convI Tryd.underlying3 Tryd.underlying31 rfl (hA.ev rfl)) : RunV _ _ _ _ (.int .u64 x9378))) rfl rfl, trivial⟩ (by kernel_rfl) (by kernel_rfl) ⟨?_, ?_, trivial⟩
    ·refine ef rfl [(33, .pointer (some ⟨g1, 0, none⟩)), (39, .int .u64 x9378)] (fun ac hA K hK => ?_) rfl rfl
     replace hS := SH.pure_ h9389 hS
     replace hS := hS.pk 1
     replace hS := obj106_mk (x := y9380.2) hS
     obtain ⟨y9392, h9393, hF⟩ := bnd hF
     rcases y9392 with y9392 | y9392
     rotate_left
     ·replace hF := sum_r hF
      refine z_callp (vs := #[.pointer (some ⟨g1, 0, none⟩), .int .u64 x9378]) en58 hA (RetS.rf (F_column_Reader_Uint (L := blk g0 83 [.slice A101 n102 c103, .int .i64 x123, .slice A6353 n6354 c6355] :: own k41 41 A6353 n6354 c6355 l6352 :: L) y9380.2 x9378 g1 h9393 (qz + 2) hZ hS)) (fun w hR => ?_) rfl rfl rfl rfl
      replace hS := hR
      obtain ⟨A9394, n9395, c9396, hS⟩ := obj106_open hS
      replace hS := hS.pk 1
      have hQ0 := SH.unpure hS
      clear hS
      obtain ⟨h9397, hS⟩ := hQ0
      replace hS := SH.pure_ h104 hS
      replace hS := hS.pk 3
      replace hS := hS.pk 3
      replace hS := obj83_mk (x := (⟨a0.f0, x123, l6352⟩ : S83)) hS
      replace hS := SH.pure_ h9397 hS
      replace hS := hS.pk 2
      replace hS := obj106_mk (x := y9392) hS
      replace hS := hS.pk 1
      cases hF
      have ht := T7912_ _ rfl
      subst ht
      replace hF := hR7912
      replace hF : some (.inr ((⟨a0.f0, x123, l6352⟩ : S83), y9392)) = some y := hF
      cases hF
      exact hQp _ rfl _ _ hA.defers hS
     replace hF := sum_l hF
     refine z_callw (vs := #[.pointer (some ⟨g1, 0, none⟩), .int .u64 x9378]) en58 hA (RetS.lf (F_column_Reader_Uint (L := blk g0 83 [.slice A101 n102 c103, .int .i64 x123, .slice A6353 n6354 c6355] :: own k41 41 A6353 n6354 c6355 l6352 :: L) y9380.2 x9378 g1 h9393 (qz + 2) hZ hS)) (fun v w hR => ?_) rfl rfl rfl rfl
     obtain ⟨rfl, hS⟩ := hR
     obtain ⟨A9398, n9399, c9400, hS⟩ := obj106_open hS
     replace hS := hS.pk 1
     have hQ0 := SH.unpure hS
     clear hS
     obtain ⟨h9401, hS⟩ := hQ0
     obtain ⟨x9402, h9403, hF⟩ := ltt_ hF
     refine hK _ [(11, .int .i64 x9402), (12, .agg #[.int .i64 x9390, .int .i64 x9402, .int .u64 0, .int .u64 0, .int .i64 0, .int .i64 0, str [], str []])] _ rfl ?_
     refine dEff [2, 11, 12] [13] (by kernel_rfl) ⟨pu rfl rfl [(31, .int .u64 y9380.1)] (fun ac hA => (rv_i h9391 (r_convI Tryd.underlying31 Tryd.underlying3 rfl (hA.ev rfl)) : RunV _ _ _ _ (.int .i64 x9390))) rfl rfl, pu rfl rfl [(40, .int .u64 y9392.1)] (fun ac hA => (rv_i h9403 (r_convI Tryd.underlying31 Tryd.underlying3 rfl (hA.ev rfl)) : RunV _ _ _ _ (.int .i64 x9402))) rfl rfl, pu rfl rfl [(32, .int .i64 x9390), (41, .int .i64 x9402)] (fun ac hA => (r_build (ps := #[(0, .int .i64 x9390), (1, .int .i64 x9402)]) rfl (mapev2 hA rfl) (fun w => by kernel_rfl) : RunV _ _ _ _ (.agg #[.int .i64 x9390, .int .i64 x9402, .int .u64 0, .int .u64 0, .int .i64 0, .int .i64 0, str [], str []]))) rfl rfl, trivial⟩ (by kernel_rfl) (by kernel_rfl) ⟨ef rfl [] (fun ac hA K hK => ?_) rfl rfl, trivial⟩
     refine z_alloc (cs := [.int .i64 0, .int .i64 0, .int .u64 0, .int .u64 0, .int .i64 0, .int .i64 0, str [], str []]) zr41 hA hS (fun g9404 w hS => ?_) rfl rfl
     refine hK _ [] _ rfl ?_
     refine dEff [2, 11, 12] [14] (by kernel_rfl) ⟨pu rfl rfl [(31, .int .u64 y9380.1)] (fun ac hA => (rv_i h9391 (r_convI Tryd.underlying31 Tryd.underlying3 rfl (hA.ev rfl)) : RunV _ _ _ _ (.int .i64 x9390))) rfl rfl, pu rfl rfl [(40, .int .u64 y9392.1)] (fun ac hA => (rv_i h9403 (r_convI Tryd.underlying31 Tryd.underlying3 rfl (hA.ev rfl)) : RunV _ _ _ _ (.int .i64 x9402))) rfl rfl, pu rfl rfl [(32, .int .i64 x9390), (41, .int .i64 x9402)] (fun ac hA => (r_build (ps := #[(0, .int .i64 x9390), (1, .int .i64 x9402)]) rfl (mapev2 hA rfl) (fun w => by kernel_rfl) : RunV _ _ _ _ (.agg #[.int .i64 x9390, .int .i64 x9402, .int .u64 0, .int .u64 0, .int .i64 0, .int .i64 0, str [], str []]))) rfl rfl, trivial⟩ (by kernel_rfl) (by kernel_rfl) ⟨ef rfl [(6, .pointer (some ⟨g9404, 0, none⟩)), (42, .agg #[.int .i64 x9390, .int .i64 x9402, .int .u64 0, .int .u64 0, .int .i64 0, .int .i64 0, str [], str []])] (fun ac hA K hK => ?_) rfl rfl, trivial⟩
     refine z_stb 0 sz41 hA hS rfl (fun  w hS => ?_) rfl rfl rfl rfl rfl rfl
     refine hK _ [] _ rfl ?_
     refine dEnd [] (by kernel_rfl) trivial ⟨by kernel_rfl, by kernel_rfl⟩ [(0, .pointer (some ⟨g0, 0, none⟩)), (1, .pointer (some ⟨g1, 0, none⟩)), (5, .int .u64 x6361), (6, .pointer (some ⟨g9404, 0, none⟩)), (26, .int .u64 y126.1), (27, .int .u64 x6361)] rfl (fun ac hA => ?_)
     replace hS := hS.pk 3
     replace hS := hS.pk 1
     replace hS := hS.pk 2
     replace hS := hS.pk 3
     exact hj2 y9392.2.f0 x9390 x9402 hF A9398 n9399 c9400 g9404 h9401 ac w (hA.sub _ rfl) hS
    ·refine ef rfl [] (fun ac hA K hK => ?_) rfl rfl
     refine z_alloc (cs := [.int .i64 0, .int .i64 0, .int .u64 0, .int .u64 0, .int .i64 0, .int .i64 0, str [], str []]) zr41 hA hS (fun g9405 w hS => ?_) rfl rfl
     refine hK _ [] _ rfl ?_
     refine dEff [2, 3, 4, 5, 6, 7, 8, 9] [10] (by kernel_rfl) ⟨pu rfl rfl [(31, .int .u64 y9380.1)] (fun ac hA => (rv_i h9391 (r_convI Tryd.underlying31 Tryd.underlying3 rfl (hA.ev rfl)) : RunV _ _ _ _ (.int .i64 x9390))) rfl rfl, pu rfl rfl [(1, .pointer (some ⟨g1, 0, none⟩))] (fun ac hA => y_move hA rfl rfl) rfl rfl, pu rfl rfl [(0, .pointer (some ⟨g0, 0, none⟩))] (fun ac hA => y_move hA rfl rfl) rfl rfl, pu rfl rfl [(34, .pointer (some ⟨g0, 0, none⟩))] (fun ac hA => r_nilCheck rfl (hA.ev rfl)) rfl rfl, pu rfl rfl [(35, .pointer (some ⟨g0, 0, none⟩))] (fun ac hA => y_fab fa83_0 hA rfl rfl) rfl rfl, pu rfl rfl [(36, .pointer (some ⟨g0, 0, none⟩))] (fun ac hA => y_ld Tryd.underlying24 (hS.cell 2 rfl 0 _ rfl) hA rfl rfl rfl) rfl rfl, pu rfl rfl [(37, .slice A101 n102 c103)] (fun ac hA => y_len Tryd.underlying24 (hS.rdl 4 (h104.rdl qz hZ) rfl).2.1 hA rfl rfl) rfl rfl, pu rfl rfl [(38, .int .i64 (a0.f0.length : Int))] (fun ac hA => (rv_i h9379 (r_convI Tryd.underlying3 Tryd.underlying31 rfl (hA.ev rfl)) : RunV _ _ _ _ (.int .u64 x9378))) rfl rfl, trivial⟩ (by kernel_rfl) (by kernel_rfl) ⟨ef rfl [(33, .pointer (some ⟨g1, 0, none⟩)), (39, .int .u64 x9378)] (fun ac hA K hK => ?_) rfl rfl, trivial⟩
     replace hS := SH.pure_ h9389 hS
     replace hS := hS.pk 2
     replace hS := obj106_mk (x := y9380.2) hS
     obtain ⟨y9406, h9407, hF⟩ := bnd hF
     rcases y9406 with y9406 | y9406
     rotate_left
     ·replace hF := sum_r hF
      refine z_callp (vs := #[.pointer (some ⟨g1, 0, none⟩), .int .u64 x9378]) en58 hA (RetS.rf (F_column_Reader_Uint (L := blk g9405 41 [.int .i64 0, .int .i64 0, .int .u64 0, .int .u64 0, .int .i64 0, .int .i64 0, str [], str []] :: blk g0 83 [.slice A101 n102 c103, .int .i64 x123, .slice A6353 n6354 c6355] :: own k41 41 A6353 n6354 c6355 l6352 :: L) y9380.2 x9378 g1 h9407 (qz + 3) hZ hS)) (fun w hR => ?_) rfl rfl rfl rfl
      replace hS := hR
      obtain ⟨A9408, n9409, c9410, hS⟩ := obj106_open hS
      replace hS := hS.pk 1
      have hQ0 := SH.unpure hS
      clear hS
      obtain ⟨h9411, hS⟩ := hQ0
      replace hS := SH.pure_ h104 hS
      replace hS := hS.pk 4
      replace hS := hS.pk 4
      replace hS := obj83_mk (x := (⟨a0.f0, x123, l6352⟩ : S83)) hS
      replace hS := SH.pure_ h9411 hS
      replace hS := hS.pk 2
      replace hS := obj106_mk (x := y9406) hS
      replace hS := hS.drop 2
      replace hS := hS.pk 1
      cases hF
      have ht := T7912_ _ rfl
      subst ht
      replace hF := hR7912
      replace hF : some (.inr ((⟨a0.f0, x123, l6352⟩ : S83), y9406)) = some y := hF
      cases hF
      exact hQp _ rfl _ _ hA.defers hS
     replace hF := sum_l hF
     refine z_callw (vs := #[.pointer (some ⟨g1, 0, none⟩), .int .u64 x9378]) en58 hA (RetS.lf (F_column_Reader_Uint (L := blk g9405 41 [.int .i64 0, .int .i64 0, .int .u64 0, .int .u64 0, .int .i64 0, .int .i64 0, str [], str []] :: blk g0 83 [.slice A101 n102 c103, .int .i64 x123, .slice A6353 n6354 c6355] :: own k41 41 A6353 n6354 c6355 l6352 :: L) y9380.2 x9378 g1 h9407 (qz + 3) hZ hS)) (fun v w hR => ?_) rfl rfl rfl rfl
     obtain ⟨rfl, hS⟩ := hR
     obtain ⟨A9412, n9413, c9414, hS⟩ := obj106_open hS
     replace hS := hS.pk 1
     have hQ0 := SH.unpure hS
     clear hS
     obtain ⟨h9415, hS⟩ := hQ0
     obtain ⟨x9416, h9417, hF⟩ := ltt_ hF
     refine hK _ [(11, .int .i64 x9416), (12, .agg #[.int .i64 x9390, .int .i64 x9416, .int .u64 0, .int .u64 0, .int .i64 0, .int .i64 0, str [], str []])] _ rfl ?_
     refine dEff [2, 11, 12] [14] (by kernel_rfl) ⟨pu rfl rfl [(31, .int .u64 y9380.1)] (fun ac hA => (rv_i h9391 (r_convI Tryd.underlying31 Tryd.underlying3 rfl (hA.ev rfl)) : RunV _ _ _ _ (.int .i64 x9390))) rfl rfl, pu rfl rfl [(40, .int .u64 y9406.1)] (fun ac hA => (rv_i h9417 (r_convI Tryd.underlying31 Tryd.underlying3 rfl (hA.ev rfl)) : RunV _ _ _ _ (.int .i64 x9416))) rfl rfl, pu rfl rfl [(32, .int .i64 x9390), (41, .int .i64 x9416)] (fun ac hA => (r_build (ps := #[(0, .int .i64 x9390), (1, .int .i64 x9416)]) rfl (mapev2 hA rfl) (fun w => by kernel_rfl) : RunV _ _ _ _ (.agg #[.int .i64 x9390, .int .i64 x9416, .int .u64 0, .int .u64 0, .int .i64 0, .int .i64 0, str [], str []]))) rfl rfl, trivial⟩ (by kernel_rfl) (by kernel_rfl) ⟨ef rfl [(6, .pointer (some ⟨g9405, 0, none⟩)), (42, .agg #[.int .i64 x9390, .int .i64 x9416, .int .u64 0, .int .u64 0, .int .i64 0, .int .i64 0, str [], str []])] (fun ac hA K hK => ?_) rfl rfl, trivial⟩
     refine z_stb 1 sz41 hA hS rfl (fun  w hS => ?_) rfl rfl rfl rfl rfl rfl
     refine hK _ [] _ rfl ?_
     refine dEnd [] (by kernel_rfl) trivial ⟨by kernel_rfl, by kernel_rfl⟩ [(0, .pointer (some ⟨g0, 0, none⟩)), (1, .pointer (some ⟨g1, 0, none⟩)), (5, .int .u64 x6361), (6, .pointer (some ⟨g9405, 0, none⟩)), (26, .int .u64 y126.1), (27, .int .u64 x6361)] rfl (fun ac hA => ?_)
     replace hS := hS.pk 3
     replace hS := hS.pk 1
     replace hS := hS.pk 2
     replace hS := hS.pk 3
     exact hj2 y9406.2.f0 x9390 x9416 hF A9412 n9413 c9414 g9405 h9415 ac w (hA.sub _ rfl) hS
   ·refine ef rfl [] (fun ac hA K hK => ?_) rfl rfl
    refine z_alloc (cs := [.int .i64 0, .int .i64 0, .int .u64 0, .int .u64 0, .int .i64 0, .int .i64 0, str [], str []]) zr41 hA hS (fun g9418 w hS => ?_) rfl rfl
    refine hK _ [] _ rfl ?_
    refine dEff [0, 3, 4, 5, 6, 7, 8, 9] [1] (by kernel_rfl) ⟨pu rfl rfl [(1, .pointer (some ⟨g1, 0, none⟩))] (fun ac hA => y_move hA rfl rfl) rfl rfl, pu rfl rfl [(1, .pointer (some ⟨g1, 0, none⟩))] (fun ac hA => y_move hA rfl rfl) rfl rfl, pu rfl rfl [(0, .pointer (some ⟨g0, 0, none⟩))] (fun ac hA => y_move hA rfl rfl) rfl rfl, pu rfl rfl [(34, .pointer (some ⟨g0, 0, none⟩))] (fun ac hA => r_nilCheck rfl (hA.ev rfl)) rfl rfl, pu rfl rfl [(35, .pointer (some ⟨g0, 0, none⟩))] (fun ac hA => y_fab fa83_0 hA rfl rfl) rfl rfl, pu rfl rfl [(36, .pointer (some ⟨g0, 0, none⟩))] (fun ac hA => y_ld Tryd.underlying24 (hS.cell 1 rfl 0 _ rfl) hA rfl rfl rfl) rfl rfl, pu rfl rfl [(37, .slice A101 n102 c103)] (fun ac hA => y_len Tryd.underlying24 (hS.rdl 4 (h104.rdl qz hZ) rfl).2.1 hA rfl rfl) rfl rfl, pu rfl rfl [(38, .int .i64 (a0.f0.length : Int))] (fun ac hA => (rv_i h9379 (r_convI Tryd.underlying3 Tryd.underlying31 rfl (hA.ev rfl)) : RunV _ _ _ _ (.int .u64 x9378))) rfl rfl, trivial⟩ (by kernel_rfl) (by kernel_rfl) ⟨ef rfl [(30, .pointer (some ⟨g1, 0, none⟩))] (fun ac hA K hK => ?_) rfl rfl, trivial⟩
    replace hS := SH.pure_ h6360 hS
    replace hS := hS.pk 3
    replace hS := obj106_mk (x := (⟨l6356⟩ : S106)) hS
    obtain ⟨y9419, h9420, hF⟩ := bnd hF
    rcases y9419 with y9419 | y9419
    rotate_left
    ·replace hF := sum_r hF
     refine z_callp (vs := #[.pointer (some ⟨g1, 0, none⟩), .int .u64 64]) en58 hA (RetS.rf (F_column_Reader_Uint (L := blk g9418 41 [.int .i64 0, .int .i64 0, .int .u64 0, .int .u64 0, .int .i64 0, .int .i64 0, str [], str []] :: blk g0 83 [.slice A101 n102 c103, .int .i64 x123, .slice A6353 n6354 c6355] :: own k41 41 A6353 n6354 c6355 l6352 :: L) (⟨l6356⟩ : S106) 64 g1 h9420 (qz + 3) hZ hS)) (fun w hR => ?_) rfl rfl rfl rfl
     replace hS := hR
     obtain ⟨A9421, n9422, c9423, hS⟩ := obj106_open hS
     replace hS := hS.pk 1
     have hQ0 := SH.unpure hS
     clear hS
     obtain ⟨h9424, hS⟩ := hQ0
     replace hS := SH.pure_ h104 hS
     replace hS := hS.pk 4
     replace hS := hS.pk 4
     replace hS := obj83_mk (x := (⟨a0.f0, x123, l6352⟩ : S83)) hS
     replace hS := SH.pure_ h9424 hS
     replace hS := hS.pk 2
     replace hS := obj106_mk (x := y9419) hS
     replace hS := hS.drop 2
     replace hS := hS.pk 1
     cases hF
     have ht := T7912_ _ rfl
     subst ht
     replace hF := hR7912
     replace hF : some (.inr ((⟨a0.f0, x123, l6352⟩ : S83), y9419)) = some y := hF
     cases hF
     exact hQp _ rfl _ _ hA.defers hS
    replace hF := sum_l hF
    refine z_callw (vs := #[.pointer (some ⟨g1, 0, none⟩), .int .u64 64]) en58 hA (RetS.lf (F_column_Reader_Uint (L := blk g9418 41 [.int .i64 0, .int .i64 0, .int .u64 0, .int .u64 0, .int .i64 0, .int .i64 0, str [], str []] :: blk g0 83 [.slice A101 n102 c103, .int .i64 x123, .slice A6353 n6354 c6355] :: own k41 41 A6353 n6354 c6355 l6352 :: L) (⟨l6356⟩ : S106) 64 g1 h9420 (qz + 3) hZ hS)) (fun v w hR => ?_) rfl rfl rfl rfl
    obtain ⟨rfl, hS⟩ := hR
    obtain ⟨A9425, n9426, c9427, hS⟩ := obj106_open hS
    replace hS := hS.pk 1
    have hQ0 := SH.unpure hS
    clear hS
    obtain ⟨h9428, hS⟩ := hQ0
    obtain ⟨x9429, h9430, hF⟩ := ltt_ hF
    refine hK _ [(2, .int .i64 x9429)] _ rfl ?_
    refine dEff [2, 3, 4, 5, 6, 7, 8, 9] [10] (by kernel_rfl) ⟨pu rfl rfl [(31, .int .u64 y9419.1)] (fun ac hA => (rv_i h9430 (r_convI Tryd.underlying31 Tryd.underlying3 rfl (hA.ev rfl)) : RunV _ _ _ _ (.int .i64 x9429))) rfl rfl, pu rfl rfl [(1, .pointer (some ⟨g1, 0, none⟩))] (fun ac hA => y_move hA rfl rfl) rfl rfl, pu rfl rfl [(0, .pointer (some ⟨g0, 0, none⟩))] (fun ac hA => y_move hA rfl rfl) rfl rfl, pu rfl rfl [(34, .pointer (some ⟨g0, 0, none⟩))] (fun ac hA => r_nilCheck rfl (hA.ev rfl)) rfl rfl, pu rfl rfl [(35, .pointer (some ⟨g0, 0, none⟩))] (fun ac hA => y_fab fa83_0 hA rfl rfl) rfl rfl, pu rfl rfl [(36, .pointer (some ⟨g0, 0, none⟩))] (fun ac hA => y_ld Tryd.underlying24 (hS.cell 2 rfl 0 _ rfl) hA rfl rfl rfl) rfl rfl, pu rfl rfl [(37, .slice A101 n102 c103)] (fun ac hA => y_len Tryd.underlying24 (hS.rdl 4 (h104.rdl qz hZ) rfl).2.1 hA rfl rfl) rfl rfl, pu rfl rfl [(38, .int .i64 (a0.f0.length : Int))] (fun ac hA => (rv_i h9379 (r_convI Tryd.underlying3 Tryd.underlying31 rfl (hA.ev rfl)) : RunV _ _ _ _ (.int .u64 x9378))) rfl rfl, trivial⟩ (by kernel_rfl) (by kernel_rfl) ⟨ef rfl [(33, .pointer (some ⟨g1, 0, none⟩)), (39, .int .u64 x9378)] (fun ac hA K hK => ?_) rfl rfl, trivial⟩
    replace hS := SH.pure_ h9428 hS
    replace hS := hS.pk 1
    replace hS := obj106_mk (x := y9419.2) hS
    obtain ⟨y9431, h9432, hF⟩ := bnd hF
    rcases y9431 with y9431 | y9431
    rotate_left
    ·replace hF := sum_r hF
     refine z_callp (vs := #[.pointer (some ⟨g1, 0, none⟩), .int .u64 x9378]) en58 hA (RetS.rf (F_column_Reader_Uint (L := blk g9418 41 [.int .i64 0, .int .i64 0, .int .u64 0, .int .u64 0, .int .i64 0, .int .i64 0, str [], str []] :: blk g0 83 [.slice A101 n102 c103, .int .i64 x123, .slice A6353 n6354 c6355] :: own k41 41 A6353 n6354 c6355 l6352 :: L) y9419.2 x9378 g1 h9432 (qz + 3) hZ hS)) (fun w hR => ?_) rfl rfl rfl rfl
     replace hS := hR
     obtain ⟨A9433, n9434, c9435, hS⟩ := obj106_open hS
     replace hS := hS.pk 1
     have hQ0 := SH.unpure hS
     clear hS
     obtain ⟨h9436, hS⟩ := hQ0
     replace hS := SH.pure_ h104 hS
     replace hS := hS.pk 4
     replace hS := hS.pk 4
     replace hS := obj83_mk (x := (⟨a0.f0, x123, l6352⟩ : S83)) hS
     replace hS := SH.pure_ h9436 hS
     replace hS := hS.pk 2
     replace hS := obj106_mk (x := y9431) hS
     replace hS := hS.drop 2
     replace hS := hS.pk 1
     cases hF
     have ht := T7912_ _ rfl
     subst ht
     replace hF := hR7912
     replace hF : some (.inr ((⟨a0.f0, x123, l6352⟩ : S83), y9431)) = some y := hF
     cases hF
     exact hQp _ rfl _ _ hA.defers hS
    replace hF := sum_l hF
    refine z_callw (vs := #[.pointer (some ⟨g1, 0, none⟩), .int .u64 x9378]) en58 hA (RetS.lf (F_column_Reader_Uint (L := blk g9418 41 [.int .i64 0, .int .i64 0, .int .u64 0, .int .u64 0, .int .i64 0, .int .i64 0, str [], str []] :: blk g0 83 [.slice A101 n102 c103, .int .i64 x123, .slice A6353 n6354 c6355] :: own k41 41 A6353 n6354 c6355 l6352 :: L) y9419.2 x9378 g1 h9432 (qz + 3) hZ hS)) (fun v w hR => ?_) rfl rfl rfl rfl
    obtain ⟨rfl, hS⟩ := hR
    obtain ⟨A9437, n9438, c9439, hS⟩ := obj106_open hS
    replace hS := hS.pk 1
    have hQ0 := SH.unpure hS
    clear hS
    obtain ⟨h9440, hS⟩ := hQ0
    obtain ⟨x9441, h9442, hF⟩ := ltt_ hF
    refine hK _ [(11, .int .i64 x9441), (12, .agg #[.int .i64 x9429, .int .i64 x9441, .int .u64 0, .int .u64 0, .int .i64 0, .int .i64 0, str [], str []])] _ rfl ?_
    refine dEff [2, 11, 12] [14] (by kernel_rfl) ⟨pu rfl rfl [(31, .int .u64 y9419.1)] (fun ac hA => (rv_i h9430 (r_convI Tryd.underlying31 Tryd.underlying3 rfl (hA.ev rfl)) : RunV _ _ _ _ (.int .i64 x9429))) rfl rfl, pu rfl rfl [(40, .int .u64 y9431.1)] (fun ac hA => (rv_i h9442 (r_convI Tryd.underlying31 Tryd.underlying3 rfl (hA.ev rfl)) : RunV _ _ _ _ (.int .i64 x9441))) rfl rfl, pu rfl rfl [(32, .int .i64 x9429), (41, .int .i64 x9441)] (fun ac hA => (r_build (ps := #[(0, .int .i64 x9429), (1, .int .i64 x9441)]) rfl (mapev2 hA rfl) (fun w => by kernel_rfl) : RunV _ _ _ _ (.agg #[.int .i64 x9429, .int .i64 x9441, .int .u64 0, .int .u64 0, .int .i64 0, .int .i64 0, str [], str []]))) rfl rfl, trivial⟩ (by kernel_rfl) (by kernel_rfl) ⟨ef rfl [(6, .pointer (some ⟨g9418, 0, none⟩)), (42, .agg #[.int .i64 x9429, .int .i64 x9441, .int .u64 0, .int .u64 0, .int .i64 0, .int .i64 0, str [], str []])] (fun ac hA K hK => ?_) rfl rfl, trivial⟩
    refine z_stb 1 sz41 hA hS rfl (fun  w hS => ?_) rfl rfl rfl rfl rfl rfl
    refine hK _ [] _ rfl ?_
    refine dEnd [] (by kernel_rfl) trivial ⟨by kernel_rfl, by kernel_rfl⟩ [(0, .pointer (some ⟨g0, 0, none⟩)), (1, .pointer (some ⟨g1, 0, none⟩)), (5, .int .u64 x6361), (6, .pointer (some ⟨g9418, 0, none⟩)), (26, .int .u64 y126.1), (27, .int .u64 x6361)] rfl (fun ac hA => ?_)
    replace hS := hS.pk 3
    replace hS := hS.pk 1
    replace hS := hS.pk 2
    replace hS := hS.pk 3
    exact hj2 y9431.2.f0 x9429 x9441 hF A9437 n9438 c9439 g9418 h9440 ac w (hA.sub _ rfl) hS
  replace hF := iff' hb7916 hF
  refine wp_exit ?_
  cases hF
  exact hx7912_0 l6352 l6356 (T7912_ _ rfl) A6353 n6354 c6355 A6357 n6358 c6359 h6360 ac w (hA.sub _ rfl) hS
 refine wp_reg ?_
 refine x_m hA rfl fun ac hA => ?_
 refine x_m hA rfl fun ac hA => ?_
 refine x_v hA (r_nilCheck rfl (hA.ev rfl)) rfl fun ac hA => ?_
 refine x_fab fa83_1 hA (fun ac hA => ?_) rfl rfl rfl rfl rfl
 refine x_ld Tryd.underlying3 (hS.cell 1 rfl 1 _ rfl) hA (fun ac hA => ?_) rfl rfl rfl rfl rfl rfl
 refine x_v hA (r_gtI rfl (hA.ev rfl) (hA.ev rfl)) rfl fun ac hA => ?_
 refine x_m hA rfl fun ac hA => ?_
 refine bcase (b := decide (0 < x123)) (fun hb9443 => ?_) fun hb9443 => ?_
 ·replace hF := ift hb9443 hF
  refine x_on hb9443 hA ?_ rfl rfl rfl
  refine x_m hA rfl fun ac hA => ?_
  refine x_on hb9443 hA ?_ rfl rfl rfl
  refine x_v hA (r_gtI rfl (hA.ev rfl) (hA.ev rfl)) rfl fun ac hA => ?_
  refine x_pickt hb9443 hA (fun ac hA => ?_) rfl rfl rfl rfl rfl rfl
  replace hS := SH.pure_ h135 hS
  replace hS := hS.pk 1
  replace hS := obj106_mk (x := y126.2) hS
  obtain ⟨y9444, h9445, hF⟩ := bnd hF
  rcases y9444 with y9444 | y9444
  rotate_left
  ·replace hF := sum_r hF
   refine x_callp (vs := #[.pointer (some ⟨g1, 0, none⟩), .bool (decide (0 < y126.1))]) en59 hA (RetS.rf (F_column_Reader_Check (L := blk g0 83 [.slice A101 n102 c103, .int .i64 x123, .slice A105 n106 c107] :: own k41 41 A105 n106 c107 a0.f2 :: L) y126.2 (decide (0 < y126.1)) g1 h9445 (qz + 2) hZ hS)) (fun w hR => ?_) rfl rfl rfl rfl rfl
   replace hS := hR
   obtain ⟨A9446, n9447, c9448, hS⟩ := obj106_open hS
   replace hS := hS.pk 1
   have hQ0 := SH.unpure hS
   clear hS
   obtain ⟨h9449, hS⟩ := hQ0
   replace hS := SH.pure_ h104 hS
   replace hS := hS.pk 3
   replace hS := hS.pk 3
   replace hS := obj83_mk (x := (⟨a0.f0, x123, a0.f2⟩ : S83)) hS
   replace hS := SH.pure_ h9449 hS
   replace hS := hS.pk 2
   replace hS := obj106_mk (x := y9444) hS
   replace hS := hS.pk 1
   cases hF
   exact hQp _ rfl _ _ hA.defers hS
  replace hF := sum_l hF
  refine x_callw (vs := #[.pointer (some ⟨g1, 0, none⟩), .bool (decide (0 < y126.1))]) en59 hA (RetS.lf (F_column_Reader_Check (L := blk g0 83 [.slice A101 n102 c103, .int .i64 x123, .slice A105 n106 c107] :: own k41 41 A105 n106 c107 a0.f2 :: L) y126.2 (decide (0 < y126.1)) g1 h9445 (qz + 2) hZ hS)) (fun v ac w hR hA => ?_) rfl rfl rfl rfl rfl rfl rfl
  obtain ⟨rfl, hS⟩ := hR
  obtain ⟨A9450, n9451, c9452, hS⟩ := obj106_open hS
  replace hS := hS.pk 1
  have hQ0 := SH.unpure hS
  clear hS
  obtain ⟨h9453, hS⟩ := hQ0
  refine wpList_nil ?_
  replace hS := hS.pk 2
  replace hS := hS.pk 1
  replace hS := hS.pk 2
  exact hj1 y9444.f0 hF A9450 n9451 c9452 h9453 ac w (hA.sub _ rfl) hS
 replace hF := iff' hb9443 hF
 refine x_off hb9443 hA (fun ac hA => ?_) rfl rfl rfl rfl rfl
 refine x_off hb9443 hA (fun ac hA => ?_) rfl rfl rfl rfl rfl
 refine x_pickf hb9443 hA (fun ac hA => ?_) rfl rfl rfl rfl rfl rfl
 replace hS := SH.pure_ h135 hS
 replace hS := hS.pk 1
 replace hS := obj106_mk (x := y126.2) hS
 obtain ⟨y9454, h9455, hF⟩ := bnd hF
 rcases y9454 with y9454 | y9454
 rotate_left
 ·replace hF := sum_r hF
  refine x_callp (vs := #[.pointer (some ⟨g1, 0, none⟩), .bool false]) en59 hA (RetS.rf (F_column_Reader_Check (L := blk g0 83 [.slice A101 n102 c103, .int .i64 x123, .slice A105 n106 c107] :: own k41 41 A105 n106 c107 a0.f2 :: L) y126.2 false g1 h9455 (qz + 2) hZ hS)) (fun w hR => ?_) rfl rfl rfl rfl rfl
  replace hS := hR
  obtain ⟨A9456, n9457, c9458, hS⟩ := obj106_open hS
  replace hS := hS.pk 1
  have hQ0 := SH.unpure hS
  clear hS
  obtain ⟨h9459, hS⟩ := hQ0
  replace hS := SH.pure_ h104 hS
  replace hS := hS.pk 3
  replace hS := hS.pk 3
  replace hS := obj83_mk (x := (⟨a0.f0, x123, a0.f2⟩ : S83)) hS
  replace hS := SH.pure_ h9459 hS
  replace hS := hS.pk 2
  replace hS := obj106_mk (x := y9454) hS
  replace hS := hS.pk 1
  cases hF
  exact hQp _ rfl _ _ hA.defers hS
 replace hF := sum_l hF
 refine x_callw (vs := #[.pointer (some ⟨g1, 0, none⟩), .bool false]) en59 hA (RetS.lf (F_column_Reader_Check (L := blk g0 83 [.slice A101 n102 c103, .int .i64 x123, .slice A105 n106 c107] :: own k41 41 A105 n106 c107 a0.f2 :: L) y126.2 false g1 h9455 (qz + 2) hZ hS)) (fun v ac w hR hA => ?_) rfl rfl rfl rfl rfl rfl rfl
 obtain ⟨rfl, hS⟩ := hR
 obtain ⟨A9460, n9461, c9462, hS⟩ := obj106_open hS
 replace hS := hS.pk 1
 have hQ0 := SH.unpure hS
 clear hS
 obtain ⟨h9463, hS⟩ := hQ0
 refine wpList_nil ?_
 replace hS := hS.pk 2
 replace hS := hS.pk 1
 replace hS := hS.pk 2
 exact hj1 y9454.f0 hF A9460 n9461 c9462 h9463 ac w (hA.sub _ rfl) hS
theorem F_Try_segment_Segment_foot {r : World} {L : List HP} {w : World} {Z : Nat → Prop} {wz : World} (a0 : (List Int)) (a60 : S83) (A0 : Option Addr) (n0 : Nat) (c0 : Nat) (g60 : Nat) {y : (Bool × S83)} (hF : Try_segment_Segment_foot a0 a60 = some y) (qz : Nat) (hZ : L[qz]? = some (zone Z wz)) (ha0 : Imm Z wz (kI .u8) A0 n0 c0 a0) (hS : SH r (obj83 Z wz g60 a60 :: L) w) :
  Ret Tryd.prog 39 #[.slice A0 n0 c0, .func (.func 40) #[.pointer (some ⟨g60, 0, none⟩)] #[]] w fun v w' => v = .bool y.1 ∧ SH r (obj83 Z wz g60 y.2 :: L) w' := by
 obtain ⟨y', hy, hF⟩ := bnd hF
 refine Ret.mono_ (try_walk (R := fun v w' => v = .bool y.1 ∧ SH r (obj83 Z wz g60 y.2 :: L) w') en40 hS (fun g g4 w1 hS1 => ?_)) (fun v w' h => h)
 replace hS1 := obj106_mk (x := ⟨a0⟩) (hS1.pk 1 |> fun h => (SH.pure_ ha0 (h.pk 1)).pk 1)
 replace hS1 := hS1.pk 1
 replace hS1 := hS1.pk 2
 replace hS1 := hS1.pk 2
 replace hS1 := hS1.pk 1
 rcases y' with y' | y'
 ·replace hF := sum_l hF
  cases hF
  left
  refine Ret.mono_ (RetS.lf (F_segment_Segment_foot (L := blk g4 4 [.bool false] :: L) a60 (⟨a0⟩ : S106) g60 g hy (qz + 1) hZ hS1)) ?_
  rintro v w2 ⟨rfl, hS⟩
  replace hS := hS.pk 1
  replace hS := hS.pk 2
  replace hS := hS.pk 1
  obtain ⟨A', n', c', hS⟩ := obj106_open hS
  have hQ := SH.unpure (hS.pk 1)
  clear hS
  obtain ⟨hi, hS⟩ := hQ
  refine ⟨_, A', n', c', hS, fun w3 h3 => ⟨?_, h3⟩⟩
  rw [← hi.ln]
 ·replace hF := sum_r hF
  cases hF
  right
  refine Calls.mono (RetS.rf (F_segment_Segment_foot (L := blk g4 4 [.bool false] :: L) a60 (⟨a0⟩ : S106) g60 g hy (qz + 1) hZ hS1)) ?_
  rintro e w2 ⟨rfl, hS⟩
  replace hS := hS.pk 1
  replace hS := hS.pk 2
  replace hS := hS.drop 1
  exact ⟨rfl, _, hS, fun w3 h3 => ⟨rfl, h3⟩⟩
theorem F_segment_Open {r : World} {L : List HP} {w : World} {Z : Nat → Prop} {wz : World} (a0 : (List Int)) (A0 : Option Addr) (n0 : Nat) (c0 : Nat) {y : ((Option S83) × Int)} (hF : segment_Open a0 = some y) (ha0 : Imm Z wz (kI .u8) A0 n0 c0 a0) (hG0 : Imm Z wz (kI .u32) (some ⟨0, 0, none⟩) 16 16 gl_page_table) (hS : SH r (zone Z wz :: L) w) :
  Ret Tryd.prog 14 #[.slice A0 n0 c0] w fun v w' => ∃ (Z' : Nat → Prop) (wz' : World) (p0 : Option Addr), v = .tuple #[(.pointer p0), (.int .i64 y.2)] ∧ Sub Z wz Z' wz' ∧ SH r (optP (obj83 Z' wz') p0 y.1 :: zone Z' wz' :: L) w' := by
 refine enter Tryd.func14 rfl Tryd.ntmps14 [(0, .slice A0 n0 c0)] rfl (by simp) ?_
 intro ac hA Qf hQ hQn
 unfold segment_Open at hF
 refine ws fun K101 hK101 => ?_
 refine x_m hA rfl fun ac hA => ?_
 refine x_m hA rfl fun ac hA => ?_
 refine wn (hK101 _ _ ?_)
 refine wp_seq_k fun K102 hK102 => ?_
 refine ws fun K103 hK103 => ?_
 refine x_m hA rfl fun ac hA => ?_
 refine x_len Tryd.underlying24 (hS.imm 0 ha0 rfl).2.1 hA (fun ac hA => ?_) rfl rfl rfl rfl rfl
 refine x_v hA (r_ltI rfl (hA.ev rfl) (hA.ev rfl)) rfl fun ac hA => ?_
 refine wn (hK103 _ _ ?_)
 refine c_if hA rfl (fun hb104 => ?_) fun hb104 => ?_
 ·replace hF := ift hb104 hF
  refine ws fun K105 hK105 => ?_
  refine x_m hA rfl fun ac hA => ?_
  refine x_m hA rfl fun ac hA => ?_
  refine wn (hK105 _ _ ?_)
  refine wp_ret ?_
  replace hS := SH.optN (obj83 Z wz) hS
  replace hS := hS.pk 1
  replace hS := hS.pk 1
  cases hF
  refine hQ _ _ ?_
  refine lv2 Tryd.results14 hA rfl rfl ?_
  exact ⟨Z, wz, none, rfl, (Sub.refl _ _), hS⟩
 replace hF := iff' hb104 hF
 refine wp_skip ?_
 refine hK102 _ _ ?_
 refine ws fun K106 hK106 => ?_
 refine x_m hA rfl fun ac hA => ?_
 refine x_m hA rfl fun ac hA => ?_
 refine x_len Tryd.underlying24 (hS.imm 0 ha0 rfl).2.1 hA (fun ac hA => ?_) rfl rfl rfl rfl rfl
 obtain ⟨x107, h108, hF⟩ := ltt_ hF
 refine x_v (v := .int .i64 x107) hA (rv_i h108 (r_sub rfl (hA.ev rfl) (hA.ev rfl))) rfl fun ac hA => ?_
 obtain ⟨y109, h110, hF⟩ := bnd hF
 refine x_call en37 hA (F_page_Read (L := zone Z wz :: L) a0 x107 A0 n0 c0 h110 0 rfl ha0 hG0 hS) (fun v ac w hR hA => ?_) rfl rfl rfl rfl rfl
 obtain ⟨B111, m112, d113, rfl, hS⟩ := hR
 refine x_m hA rfl fun ac hA => ?_
 refine x_v hA (r_extract rfl (hA.ev rfl) rfl) rfl fun ac hA => ?_
 refine x_v hA (r_extract rfl (hA.ev rfl) rfl) rfl fun ac hA => ?_
 refine x_v hA (r_extract rfl (hA.ev rfl) rfl) rfl fun ac hA => ?_
 refine x_v hA (r_extract rfl (hA.ev rfl) rfl) rfl fun ac hA => ?_
 refine x_m hA rfl fun ac hA => ?_
 refine x_m hA rfl fun ac hA => ?_
 refine x_m hA rfl fun ac hA => ?_
 refine x_m hA rfl fun ac hA => ?_
 refine wn (hK106 _ _ ?_)
 refine wp_seq_k fun K114 hK114 => ?_
 refine ws fun K115 hK115 => ?_
 refine x_m hA rfl fun ac hA => ?_
 refine x_v hA (r_neI rfl (hA.ev rfl) (hA.ev rfl)) rfl fun ac hA => ?_
 refine wn (hK115 _ _ ?_)
 refine c_if hA rfl (fun hb116 => ?_) fun hb116 => ?_
 ·replace hF := ift hb116 hF
  refine ws fun K117 hK117 => ?_
  refine x_m hA rfl fun ac hA => ?_
  refine x_m hA rfl fun ac hA => ?_
  refine x_m hA rfl fun ac hA => ?_
  refine wn (hK117 _ _ ?_)
  refine wp_ret ?_
  replace hS := SH.optN (obj83 Z wz) hS
  replace hS := hS.drop 1
  replace hS := hS.pk 1
  replace hS := hS.pk 1
  cases hF
  refine hQ _ _ ?_
  refine lv2 Tryd.results14 hA rfl rfl ?_
  exact ⟨Z, wz, none, rfl, (Sub.refl _ _), hS⟩
 replace hF := iff' hb116 hF
 refine wp_skip ?_
 refine hK114 _ _ ?_
 refine wp_seq_k fun K118 hK118 => ?_
 refine wp_seq_k fun K119 hK119 => ?_
 have hj1 : ∀ (b122 : Bool), segment_Open_j1 a0 y109 b122 = some y → ∀ (ac : Act) (w : World), FR 100 [] ac [(0, .slice A0 n0 c0), (5, .slice B111 m112 d113), (38, .bool b122)] → SH r (own (kI .u8) 5 B111 m112 d113 y109.2.1 :: zone Z wz :: L) w → K119 ac w := by
  intro b122 hF ac w hA hS
  unfold segment_Open_j1 at hF
  refine hK119 _ _ ?_
  refine c_if hA rfl (fun hb123 => ?_) fun hb123 => ?_
  ·replace hF := ift hb123 hF
   refine ws fun K124 hK124 => ?_
   refine x_m hA rfl fun ac hA => ?_
   refine x_m hA rfl fun ac hA => ?_
   refine wn (hK124 _ _ ?_)
   refine wp_ret ?_
   replace hS := SH.optN (obj83 Z wz) hS
   replace hS := hS.drop 1
   replace hS := hS.pk 1
   replace hS := hS.pk 1
   cases hF
   refine hQ _ _ ?_
   refine lv2 Tryd.results14 hA rfl rfl ?_
   exact ⟨Z, wz, none, rfl, (Sub.refl _ _), hS⟩
  replace hF := iff' hb123 hF
  refine wp_skip ?_
  refine hK118 _ _ ?_
  refine wp_seq_k fun K125 hK125 => ?_
  refine wp_draw [0, 1, 3, 7, 0, 16, 48, 112, 240, 511, 0, 1024, 3072, 7168, 15360, 32767, 0, 65536, 196608, 458752, 983040, 2097151, 4194303] [] rfl hA hS (by kernel_rfl) (by kernel_rfl) (by kernel_rfl) (by kernel_rfl) fun w hS => ?_
  obtain ⟨x126, h127, hF⟩ := bnd hF
  obtain ⟨cs, hV, hc128⟩ := el (hS.rd 0 rfl) h127
  obtain rfl := hV
  obtain ⟨x129, h130, hF⟩ := ltt_ hF
  obtain ⟨x131, h132, hF⟩ := bnd hF
  obtain ⟨cs, hV, hc133⟩ := el (hS.rd 0 rfl) h132
  obtain rfl := hV
  obtain ⟨x134, h135, hF⟩ := ltt_ hF
  obtain ⟨x136, h137, hF⟩ := ltt_ hF
  obtain ⟨x138, h139, hF⟩ := ltt_ hF
  obtain ⟨x140, h141, hF⟩ := bnd hF
  obtain ⟨cs, hV, hc142⟩ := el (hS.rd 0 rfl) h141
  obtain rfl := hV
  obtain ⟨x143, h144, hF⟩ := ltt_ hF
  obtain ⟨x145, h146, hF⟩ := ltt_ hF
  obtain ⟨x147, h148, hF⟩ := ltt_ hF
  obtain ⟨x149, h150, hF⟩ := bnd hF
  obtain ⟨cs, hV, hc151⟩ := el (hS.rd 0 rfl) h150
  obtain rfl := hV
  obtain ⟨x152, h153, hF⟩ := ltt_ hF
  obtain ⟨x154, h155, hF⟩ := ltt_ hF
  obtain ⟨x156, h157, hF⟩ := ltt_ hF
  refine ⟨[(0, .slice B111 m112 d113), (1, .pointer (some (ea B111 ((0 : Int).toNat * 1)))), (2, .int .u8 x126), (3, .int .i64 x129), (4, .slice B111 m112 d113), (5, .pointer (some (ea B111 ((1 : Int).toNat * 1)))), (6, .int .u8 x131), (7, .int .i64 x134), (8, .int .i64 x136), (9, .int .i64 x138), (10, .slice B111 m112 d113), (11, .pointer (some (ea B111 ((2 : Int).toNat * 1)))), (12, .int .u8 x140), (13, .int .i64 x143), (14, .int .i64 x145), (15, .int .i64 x147), (16, .slice B111 m112 d113), (17, .pointer (some (ea B111 ((3 : Int).toNat * 1)))), (18, .int .u8 x149), (19, .int .i64 x152), (20, .int .i64 x154), (21, .int .i64 x156), (22, .int .i64 x156)], ?_⟩
  refine dEnd [0, 1, 2, 3, 4, 5, 6, 7, 8, 9, 10, 11, 12, 13, 14, 15, 16, 17, 18, 19, 20, 21, 22] (by kernel_rfl) ⟨pu rfl rfl [(5, .slice B111 m112 d113)] (fun ac hA => y_move hA rfl rfl) rfl rfl, pu rfl rfl [(39, .slice B111 m112 d113)] (fun ac hA => y_ia Tryd.underlying24 sz5 (hS.rd 0 rfl) h127 hA rfl rfl rfl) rfl rfl, pu rfl rfl [(40, .pointer (some (ea B111 ((0 : Int).toNat * 1))))] (fun ac hA => y_ld Tryd.underlying5 (hc128 0 _ rfl) hA rfl rfl rfl) rfl rfl, pu rfl rfl [(41, .int .u8 x126)] (fun ac hA => (rv_i h130 (r_convI Tryd.underlying5 Tryd.underlying3 rfl (hA.ev rfl)) : RunV _ _ _ _ (.int .i64 x129))) rfl rfl, pu rfl rfl [(5, .slice B111 m112 d113)] (fun ac hA => y_move hA rfl rfl) rfl rfl, pu rfl rfl [(43, .slice B111 m112 d113)] (fun ac hA => y_ia Tryd.underlying24 sz5 (hS.rd 0 rfl) h132 hA rfl rfl rfl) rfl rfl, pu rfl rfl [(44, .pointer (some (ea B111 ((1 : Int).toNat * 1))))] (fun ac hA => y_ld Tryd.underlying5 (hc133 0 _ rfl) hA rfl rfl rfl) rfl rfl, pu rfl rfl [(45, .int .u8 x131)] (fun ac hA => (rv_i h135 (r_convI Tryd.underlying5 Tryd.underlying3 rfl (hA.ev rfl)) : RunV _ _ _ _ (.int .i64 x134))) rfl rfl, pu rfl rfl [(46, .int .i64 x134)] (fun ac hA => (rv_i h137 (r_shl rfl (hA.ev rfl) (hA.ev rfl) (by decide)) : RunV _ _ _ _ (.int .i64 x136))) rfl rfl, pu rfl rfl [(42, .int .i64 x129), (47, .int .i64 x136)] (fun ac hA => (rv_i h139 (r_or rfl (hA.ev rfl) (hA.ev rfl)) : RunV _ _ _ _ (.int .i64 x138))) rfl rfl, pu rfl rfl [(5, .slice B111 m112 d113)] (fun ac hA => y_move hA rfl rfl) rfl rfl, pu rfl rfl [(49, .slice B111 m112 d113)] (fun ac hA => y_ia Tryd.underlying24 sz5 (hS.rd 0 rfl) h141 hA rfl rfl rfl) rfl rfl, pu rfl rfl [(50, .pointer (some (ea B111 ((2 : Int).toNat * 1))))] (fun ac hA => y_ld Tryd.underlying5 (hc142 0 _ rfl) hA rfl rfl rfl) rfl rfl, pu rfl rfl [(51, .int .u8 x140)] (fun ac hA => (rv_i h144 (r_convI Tryd.underlying5 Tryd.underlying3 rfl (hA.ev rfl)) : RunV _ _ _ _ (.int .i64 x143))) rfl rfl, pu rfl rfl [(52, .int .i64 x143)] (fun ac hA => (rv_i h146 (r_shl rfl (hA.ev rfl) (hA.ev rfl) (by decide)) : RunV _ _ _ _ (.int .i64 x145))) rfl rfl, pu rfl rfl [(48, .int .i64 x138), (53, .int .i64 x145)] (fun ac hA => (rv_i h148 (r_or rfl (hA.ev rfl) (hA.ev rfl)) : RunV _ _ _ _ (.int .i64 x147))) rfl rfl, pu rfl rfl [(5, .slice B111 m112 d113)] (fun ac hA => y_move hA rfl rfl) rfl rfl, pu rfl rfl [(55, .slice B111 m112 d113)] (fun ac hA => y_ia Tryd.underlying24 sz5 (hS.rd 0 rfl) h150 hA rfl rfl rfl) rfl rfl, pu rfl rfl [(56, .pointer (some (ea B111 ((3 : Int).toNat * 1))))] (fun ac hA => y_ld Tryd.underlying5 (hc151 0 _ rfl) hA rfl rfl rfl) rfl rfl, pu rfl rfl [(57, .int .u8 x149)] (fun ac hA => (rv_i h153 (r_convI Tryd.underlying5 Tryd.underlying3 rfl (hA.ev rfl)) : RunV _ _ _ _ (.int .i64 x152))) rfl rfl, pu rfl rfl [(58, .int .i64 x152)] (fun ac hA => (rv_i h155 (r_shl rfl (hA.ev rfl) (hA.ev rfl) (by decide)) : RunV _ _ _ _ (.int .i64 x154))) rfl rfl, pu rfl rfl [(54, .int .i64 x147), (59, .int .i64 x154)] (fun ac hA => (rv_i h157 (r_or rfl (hA.ev rfl) (hA.ev rfl)) : RunV _ _ _ _ (.int .i64 x156))) rfl rfl, pu rfl rfl [(60, .int .i64 x156)] (fun ac hA => y_assign hA rfl rfl) rfl rfl, trivial⟩ ⟨by kernel_rfl, by kernel_rfl⟩ [(0, .slice A0 n0 c0), (8, .int .i64 x156)] rfl (fun ac hA => ?_)
  refine hK125 _ _ ?_
  refine wp_seq_k fun K158 hK158 => ?_
  refine ws fun K159 hK159 => ?_
  refine x_m hA rfl fun ac hA => ?_
  refine x_m hA rfl fun ac hA => ?_
  refine x_len Tryd.underlying24 (hS.imm 1 ha0 rfl).2.1 hA (fun ac hA => ?_) rfl rfl rfl rfl rfl
  obtain ⟨x160, h161, hF⟩ := ltt_ hF
  refine x_v (v := .int .i64 x160) hA (rv_i h161 (r_sub rfl (hA.ev rfl) (hA.ev rfl))) rfl fun ac hA => ?_
  refine x_v hA (r_gtI rfl (hA.ev rfl) (hA.ev rfl)) rfl fun ac hA => ?_
  refine wn (hK159 _ _ ?_)
  refine c_if hA rfl (fun hb162 => ?_) fun hb162 => ?_
  ·replace hF := ift hb162 hF
   refine ws fun K163 hK163 => ?_
   refine x_m hA rfl fun ac hA => ?_
   refine x_m hA rfl fun ac hA => ?_
   refine wn (hK163 _ _ ?_)
   refine wp_ret ?_
   replace hS := SH.optN (obj83 Z wz) hS
   replace hS := hS.drop 1
   replace hS := hS.pk 1
   replace hS := hS.pk 1
   cases hF
   refine hQ _ _ ?_
   refine lv2 Tryd.results14 hA rfl rfl ?_
   exact ⟨Z, wz, none, rfl, (Sub.refl _ _), hS⟩
  replace hF := iff' hb162 hF
  refine wp_skip ?_
  refine hK158 _ _ ?_
  refine ws fun K164 hK164 => ?_
  refine x_m hA rfl fun ac hA => ?_
  refine x_m hA rfl fun ac hA => ?_
  obtain ⟨y165, h166, hF⟩ := bnd hF
  refine x_call en37 hA (F_page_Read (L := own (kI .u8) 5 B111 m112 d113 y109.2.1 :: zone Z wz :: L) a0 x156 A0 n0 c0 h166 1 rfl ha0 hG0 hS) (fun v ac w hR hA => ?_) rfl rfl rfl rfl rfl
  obtain ⟨B167, m168, d169, rfl, hS⟩ := hR
  refine x_m hA rfl fun ac hA => ?_
  refine x_v hA (r_extract rfl (hA.ev rfl) rfl) rfl fun ac hA => ?_
  refine x_v hA (r_extract rfl (hA.ev rfl) rfl) rfl fun ac hA => ?_
  refine x_v hA (r_extract rfl (hA.ev rfl) rfl) rfl fun ac hA => ?_
  refine x_v hA (r_extract rfl (hA.ev rfl) rfl) rfl fun ac hA => ?_
  refine x_m hA rfl fun ac hA => ?_
  refine x_m hA rfl fun ac hA => ?_
  refine x_m hA rfl fun ac hA => ?_
  refine x_m hA rfl fun ac hA => ?_
  refine wn (hK164 _ _ ?_)
  refine wp_seq_k fun K170 hK170 => ?_
  refine ws fun K171 hK171 => ?_
  refine x_m hA rfl fun ac hA => ?_
  refine x_v hA (r_neI rfl (hA.ev rfl) (hA.ev rfl)) rfl fun ac hA => ?_
  refine wn (hK171 _ _ ?_)
  refine c_if hA rfl (fun hb172 => ?_) fun hb172 => ?_
  ·replace hF := ift hb172 hF
   refine ws fun K173 hK173 => ?_
   refine x_m hA rfl fun ac hA => ?_
   refine x_m hA rfl fun ac hA => ?_
   refine x_m hA rfl fun ac hA => ?_
   refine wn (hK173 _ _ ?_)
   refine wp_ret ?_
   replace hS := SH.optN (obj83 Z wz) hS
   replace hS := hS.drop 1
   replace hS := hS.drop 1
   replace hS := hS.pk 1
   replace hS := hS.pk 1
   cases hF
   refine hQ _ _ ?_
   refine lv2 Tryd.results14 hA rfl rfl ?_
   exact ⟨Z, wz, none, rfl, (Sub.refl _ _), hS⟩
  replace hF := iff' hb172 hF
  refine wp_skip ?_
  refine hK170 _ _ ?_
  refine ws fun K174 hK174 => ?_
  refine x_m hA rfl fun ac hA => ?_
  refine x_m hA rfl fun ac hA => ?_
  obtain ⟨l175, h176, hF⟩ := bnd hF
  obtain ⟨A179, n180, c181, e178, h177⟩ := imm_hc ha0 h176
  refine x_v (v := .slice A179 n180 c181) hA (rv_e e178 (r_slice_h Tryd.underlying24 sz5 rfl (hA.ev rfl) (hA.ev rfl) (cutq (hS.imm 2 ha0 rfl) h176).2.2.2.2.1 (cutq (hS.imm 2 ha0 rfl) h176).2.2.1)) rfl fun ac hA => ?_
  obtain ⟨y182, h183, hF⟩ := bnd hF
  refine x_call en38 hA (F_slices_Clone_byte_byte (L := own (kI .u8) 5 B167 m168 d169 y165.2.1 :: own (kI .u8) 5 B111 m112 d113 y109.2.1 :: zone Z wz :: L) l175 A179 n180 c181 h183 (h177.rdl 2 rfl) hS) (fun v ac w hR hA => ?_) rfl rfl rfl rfl rfl
  obtain ⟨B184, m185, d186, rfl, hS⟩ := hR
  replace hS := hS.pk 3
  replace hS := hS.pk 1
  obtain ⟨Z187, wz188, hS, h189, sb190⟩ := SH.freeze (n := m185) (c := d186) (A := B184) hS
  have h191 := Imm.sub ha0 sb190
  have h192 := Imm.sub h177 sb190
  refine x_v (v := .agg #[.slice B184 m185 d186, .int .i64 0, .slice none 0 0]) hA (r_build (ps := #[(0, .slice B184 m185 d186)]) rfl (mapev2 hA rfl) (fun w => by kernel_rfl)) rfl fun ac hA => ?_
  refine x_box hA hS (fun g193 ac w hS hA => ?_) rfl rfl rfl rfl rfl rfl
  refine x_m hA rfl fun ac hA => ?_
  refine wn (hK174 _ _ ?_)
  refine wp_seq_k fun K194 hK194 => ?_
  refine wp_seq_k fun K195 hK195 => ?_
  have hj2 : ∀ (l217 : (List Int)) (x222 : Int) (l223 : (List S41)) (b227 : Bool), segment_Open_j2 l217 x222 l223 b227 = some y → ∀ (Z214 : Nat → Prop) (wz215 : World) (A218 : Option Addr) (n219 : Nat) (c220 : Nat) (A224 : Option Addr) (n225 : Nat) (c226 : Nat) (h216 : Sub Z wz Z214 wz215) (h221 : Imm Z214 wz215 (kI .u8) A218 n219 c220 l217) (ac : Act) (w : World), FR 100 [] ac [(9, .pointer (some ⟨g193, 0, none⟩)), (98, .bool b227)] → SH r (blk g193 83 [.slice A218 n219 c220, .int .i64 x222, .slice A224 n225 c226] :: own k41 41 A224 n225 c226 l223 :: zone Z214 wz215 :: L) w → K195 ac w := by
   intro l217 x222 l223 b227 hF Z214 wz215 A218 n219 c220 A224 n225 c226 h216 h221 ac w hA hS
   unfold segment_Open_j2 at hF
   refine hK195 _ _ ?_
   refine c_if hA rfl (fun hb228 => ?_) fun hb228 => ?_
   ·replace hF := ift hb228 hF
    refine ws fun K229 hK229 => ?_
    refine x_m hA rfl fun ac hA => ?_
    refine x_m hA rfl fun ac hA => ?_
    refine wn (hK229 _ _ ?_)
    refine wp_ret ?_
    replace hS := SH.optN (obj83 Z214 wz215) hS
    replace hS := hS.drop 1
    replace hS := hS.drop 1
    replace hS := hS.pk 1
    replace hS := hS.pk 1
    cases hF
    refine hQ _ _ ?_
    refine lv2 Tryd.results14 hA rfl rfl ?_
    exact ⟨Z214, wz215, none, rfl, h216, hS⟩
   replace hF := iff' hb228 hF
   refine wp_skip ?_
   refine hK194 _ _ ?_
   refine ws fun K230 hK230 => ?_
   refine x_m hA rfl fun ac hA => ?_
   refine x_m hA rfl fun ac hA => ?_
   refine x_m hA rfl fun ac hA => ?_
   refine wn (hK230 _ _ ?_)
   refine wp_ret ?_
   replace hS := SH.pure_ h221 hS
   replace hS := hS.pk 2
   replace hS := hS.pk 2
   replace hS := obj83_mk (x := (⟨l217, x222, l223⟩ : S83)) hS
   replace hS := SH.optS hS
   replace hS := hS.pk 1
   replace hS := hS.pk 1
   cases hF
   refine hQ _ _ ?_
   refine lv2 Tryd.results14 hA rfl rfl ?_
   exact ⟨Z214, wz215, some ⟨g193, 0, none⟩, rfl, h216, hS⟩
  refine wp_reg ?_
  refine x_m hA rfl fun ac hA => ?_
  refine x_v hA (r_neI rfl (hA.ev rfl) (hA.ev rfl)) rfl fun ac hA => ?_
  refine x_m hA rfl fun ac hA => ?_
  refine bcase (b := y165.1 != 102) (fun hb231 => ?_) fun hb231 => ?_
  ·replace hF := ift hb231 hF
   refine x_off hb231 hA (fun ac hA => ?_) rfl rfl rfl rfl rfl
   refine x_off hb231 hA (fun ac hA => ?_) rfl rfl rfl rfl rfl
   refine x_off hb231 hA (fun ac hA => ?_) rfl rfl rfl rfl rfl
   refine x_off hb231 hA (fun ac hA => ?_) rfl rfl rfl rfl rfl
   refine x_off hb231 hA (fun ac hA => ?_) rfl rfl rfl rfl rfl
   refine x_pickt hb231 hA (fun ac hA => ?_) rfl rfl rfl rfl rfl rfl
   refine x_m hA rfl fun ac hA => ?_
   refine x_off rfl hA (fun ac hA => ?_) rfl rfl rfl rfl rfl
   refine x_off rfl hA (fun ac hA => ?_) rfl rfl rfl rfl rfl
   refine x_off rfl hA (fun ac hA => ?_) rfl rfl rfl rfl rfl
   refine x_off rfl hA (fun ac hA => ?_) rfl rfl rfl rfl rfl
   refine x_off rfl hA (fun ac hA => ?_) rfl rfl rfl rfl rfl
   refine x_pickt rfl hA (fun ac hA => ?_) rfl rfl rfl rfl rfl rfl
   refine wpList_nil ?_
   replace hS := SH.nil_own (d := k41) (e := 41) hS
   replace hS := hS.drop 3
   replace hS := hS.drop 3
   replace hS := hS.pk 2
   replace hS := hS.pk 1
   replace hS := hS.pk 2
   exact hj2 y182 0 [] true hF Z187 wz188 B184 m185 d186 none 0 0 sb190 h189 ac w (hA.sub _ rfl) hS
  replace hF := iff' hb231 hF
  refine x_on hb231 hA ?_ rfl rfl rfl
  refine x_m hA rfl fun ac hA => ?_
  refine x_on hb231 hA ?_ rfl rfl rfl
  refine x_m hA rfl fun ac hA => ?_
  refine x_on hb231 hA ?_ rfl rfl rfl
  refine x_len Tryd.underlying24 (hS.imm 1 h191 rfl).2.1 hA (fun ac hA => ?_) rfl rfl rfl rfl rfl
  refine x_on hb231 hA ?_ rfl rfl rfl
  refine x_v (v := .int .i64 x160) hA (rv_i h161 (r_sub rfl (hA.ev rfl) (hA.ev rfl))) rfl fun ac hA => ?_
  refine x_on hb231 hA ?_ rfl rfl rfl
  refine x_v hA (r_neI rfl (hA.ev rfl) (hA.ev rfl)) rfl fun ac hA => ?_
  refine x_pickf hb231 hA (fun ac hA => ?_) rfl rfl rfl rfl rfl rfl
  refine x_m hA rfl fun ac hA => ?_
  refine bcase (b := y165.2.2.1 != x160) (fun hb232 => ?_) fun hb232 => ?_
  ·replace hF := ift hb232 hF
   refine x_off hb232 hA (fun ac hA => ?_) rfl rfl rfl rfl rfl
   refine x_off hb232 hA (fun ac hA => ?_) rfl rfl rfl rfl rfl
   refine x_off hb232 hA (fun ac hA => ?_) rfl rfl rfl rfl rfl
   refine x_off hb232 hA (fun ac hA => ?_) rfl rfl rfl rfl rfl
   refine x_off hb232 hA (fun ac hA => ?_) rfl rfl rfl rfl rfl
   refine x_pickt hb232 hA (fun ac hA => ?_) rfl rfl rfl rfl rfl rfl
   refine wpList_nil ?_
   replace hS := SH.nil_own (d := k41) (e := 41) hS
   replace hS := hS.drop 3
   replace hS := hS.drop 3
   replace hS := hS.pk 2
   replace hS := hS.pk 1
   replace hS := hS.pk 2
   exact hj2 y182 0 [] true hF Z187 wz188 B184 m185 d186 none 0 0 sb190 h189 ac w (hA.sub _ rfl) hS
  replace hF := iff' hb232 hF
  refine x_on hb232 hA ?_ rfl rfl rfl
  refine x_m hA rfl fun ac hA => ?_
  refine x_on hb232 hA ?_ rfl rfl rfl
  refine x_m hA rfl fun ac hA => ?_
  refine x_on hb232 hA ?_ rfl rfl rfl
  refine x_v hA (r_makeFunc rfl (mapev (vals := #[.pointer (some ⟨g193, 0, none⟩)]) hA rfl) (mapev (vals := #[]) hA rfl)) rfl fun ac hA => ?_
  refine x_on hb232 hA ?_ rfl rfl rfl
  replace hS := hS.pk 1
  replace hS := hS.pk 2
  obtain ⟨Z233, wz234, hS, h235, sb236⟩ := SH.freeze (n := m168) (c := d169) (A := B167) hS
  have h237 := Imm.sub h191 sb236
  have h238 := Imm.sub h192 sb236
  have h239 := Imm.sub h189 sb236
  replace hS := SH.nil_own (d := k41) (e := 41) hS
  replace hS := SH.pure_ h239 hS
  replace hS := hS.pk 1
  replace hS := hS.pk 3
  replace hS := obj83_mk (x := (⟨y182, 0, []⟩ : S83)) hS
  obtain ⟨y240, h241, hF⟩ := bnd hF
  refine x_call en39 hA (F_Try_segment_Segment_foot (L := zone Z233 wz234 :: own (kI .u8) 5 B111 m112 d113 y109.2.1 :: L) y165.2.1 (⟨y182, 0, []⟩ : S83) B167 m168 d169 g193 h241 0 rfl h235 hS) (fun v ac w hR hA => ?_) rfl rfl rfl rfl rfl
  obtain ⟨rfl, hS⟩ := hR
  obtain ⟨A242, n243, c244, A246, n247, c248, hS⟩ := obj83_open hS
  replace hS := hS.pk 2
  have hQ0 := SH.unpure hS
  clear hS
  obtain ⟨h245, hS⟩ := hQ0
  refine x_on hb232 hA ?_ rfl rfl rfl
  refine x_v hA (r_not rfl (hA.ev rfl)) rfl fun ac hA => ?_
  refine x_pickf hb232 hA (fun ac hA => ?_) rfl rfl rfl rfl rfl rfl
  refine wpList_nil ?_
  replace hS := hS.drop 3
  exact hj2 y240.2.f0 y240.2.f1 y240.2.f2 (!y240.1) hF Z233 wz234 A242 n243 c244 A246 n247 c248 (Sub.trans sb190 sb236) h245 ac w (hA.sub _ rfl) hS
 refine wp_reg ?_
 refine x_m hA rfl fun ac hA => ?_
 refine x_v hA (r_neI rfl (hA.ev rfl) (hA.ev rfl)) rfl fun ac hA => ?_
 refine x_m hA rfl fun ac hA => ?_
 refine bcase (b := y109.1 != 116) (fun hb249 => ?_) fun hb249 => ?_
 ·replace hF := ift hb249 hF
  refine x_off hb249 hA (fun ac hA => ?_) rfl rfl rfl rfl rfl
  refine x_off hb249 hA (fun ac hA => ?_) rfl rfl rfl rfl rfl
  refine x_off hb249 hA (fun ac hA => ?_) rfl rfl rfl rfl rfl
  refine x_pickt hb249 hA (fun ac hA => ?_) rfl rfl rfl rfl rfl rfl
  refine x_m hA rfl fun ac hA => ?_
  refine x_off rfl hA (fun ac hA => ?_) rfl rfl rfl rfl rfl
  refine x_off rfl hA (fun ac hA => ?_) rfl rfl rfl rfl rfl
  refine x_off rfl hA (fun ac hA => ?_) rfl rfl rfl rfl rfl
  refine x_off rfl hA (fun ac hA => ?_) rfl rfl rfl rfl rfl
  refine x_pickt rfl hA (fun ac hA => ?_) rfl rfl rfl rfl rfl rfl
  refine wpList_nil ?_
  exact hj1 true hF ac w (hA.sub _ rfl) hS
 replace hF := iff' hb249 hF
 refine x_on hb249 hA ?_ rfl rfl rfl
 refine x_m hA rfl fun ac hA => ?_
 refine x_on hb249 hA ?_ rfl rfl rfl
 refine x_len Tryd.underlying24 (hS.rd 0 rfl).2.1 hA (fun ac hA => ?_) rfl rfl rfl rfl rfl
 refine x_on hb249 hA ?_ rfl rfl rfl
 refine x_v hA (r_neI rfl (hA.ev rfl) (hA.ev rfl)) rfl fun ac hA => ?_
 refine x_pickf hb249 hA (fun ac hA => ?_) rfl rfl rfl rfl rfl rfl
 refine x_m hA rfl fun ac hA => ?_
 refine bcase (b := (y109.2.1.length : Int) != 4) (fun hb250 => ?_) fun hb250 => ?_
 ·replace hF := ift hb250 hF
  refine x_off hb250 hA (fun ac hA => ?_) rfl rfl rfl rfl rfl
  refine x_off hb250 hA (fun ac hA => ?_) rfl rfl rfl rfl rfl
  refine x_off hb250 hA (fun ac hA => ?_) rfl rfl rfl rfl rfl
  refine x_off hb250 hA (fun ac hA => ?_) rfl rfl rfl rfl rfl
  refine x_pickt hb250 hA (fun ac hA => ?_) rfl rfl rfl rfl rfl rfl
  refine wpList_nil ?_
  exact hj1 true hF ac w (hA.sub _ rfl) hS
 replace hF := iff' hb250 hF
 refine x_on hb250 hA ?_ rfl rfl rfl
 refine x_m hA rfl fun ac hA => ?_
 refine x_on hb250 hA ?_ rfl rfl rfl
 refine x_m hA rfl fun ac hA => ?_
 refine x_on hb250 hA ?_ rfl rfl rfl
 refine x_len Tryd.underlying24 (hS.imm 1 ha0 rfl).2.1 hA (fun ac hA => ?_) rfl rfl rfl rfl rfl
 refine x_on hb250 hA ?_ rfl rfl rfl
 refine x_v hA (r_neI rfl (hA.ev rfl) (hA.ev rfl)) rfl fun ac hA => ?_
 refine x_pickf hb250 hA (fun ac hA => ?_) rfl rfl rfl rfl rfl rfl
 refine wpList_nil ?_
 exact hj1 (y109.2.2.1 != (a0.length : Int)) hF ac w (hA.sub _ rfl) hS
theorem F_slices_Clone_segment_Chunk_segment_Chunk {r : World} {L : List HP} {w : World} (a0 : (List S41)) (A0 : Option Addr) (n0 : Nat) (c0 : Nat) {y : ((List S41))} (hF : slices_Clone_segment_Chunk_segment_Chunk a0 = some y) (ha0 : RdL L k41 A0 n0 c0 a0) (hS : SH r (L) w) :
  Ret Tryd.prog 41 #[.slice A0 n0 c0] w fun v w' => ∃ (B0 : Option Addr) (m0 : Nat) (d0 : Nat), v = .slice B0 m0 d0 ∧ SH r (own k41 41 B0 m0 d0 y :: L) w' := by
 refine enter Tryd.func41 rfl Tryd.ntmps41 [(0, .slice A0 n0 c0)] rfl (by simp) ?_
 intro ac hA Qf hQ hQn
 unfold slices_Clone_segment_Chunk_segment_Chunk at hF
 refine ws fun K101 hK101 => ?_
 refine x_m hA rfl fun ac hA => ?_
 refine wn (hK101 _ _ ?_)
 refine wp_seq_k fun K102 hK102 => ?_
 refine ws fun K103 hK103 => ?_
 refine x_m hA rfl fun ac hA => ?_
 rcases A0 with _ | ad104
 ·replace hF := nil_l (RdL.none_nil ha0 (hS.sfx 0)) hF
  refine x_v (v := .bool true) hA (r_eqNilS (p := none) Tryd.underlying38 rfl (hA.ev rfl) (hA.ev rfl)) rfl fun ac hA => ?_
  refine wn (hK103 _ _ ?_)
  refine c_t (b := true) rfl hA ?_ rfl
  refine ws fun K105 hK105 => ?_
  refine x_m hA rfl fun ac hA => ?_
  refine wn (hK105 _ _ ?_)
  refine wp_ret ?_
  replace hS := SH.nil_own (d := k41) (e := 41) hS
  cases hF
  refine hQ _ _ ?_
  refine lv Tryd.results41 hA rfl ?_
  exact ⟨none, 0, 0, rfl, hS⟩
 replace hF := nil_r hF
 refine x_v (v := .bool false) hA (r_eqNilS (p := some ad104) Tryd.underlying38 rfl (hA.ev rfl) (hA.ev rfl)) rfl fun ac hA => ?_
 refine wn (hK103 _ _ ?_)
 refine c_f (b := false) rfl hA ?_ rfl
 refine wp_skip ?_
 refine hK102 _ _ ?_
 refine ws fun K106 hK106 => ?_
 refine x_bsl (d := k41) (e := 41) (ps := #[]) (cells := []) (xs := []) (fun w => by kernel_rfl) rfl rfl hA hS (fun g107 ac w hS hA => ?_) rfl rfl rfl rfl rfl rfl
 refine x_m hA rfl fun ac hA => ?_
 obtain ⟨h108, hF⟩ := chk_some hF
 have hr := hS.rdl 1 ha0 rfl
 refine x_app 0 inf41 Tryd.underlying38 hA hS hr.1 hr.2.1 h108 rfl (fun A109 n110 c111 ac w hS hA => ?_) rfl rfl rfl rfl rfl rfl rfl rfl rfl
 rw [List.nil_append] at hS
 refine x_m hA rfl fun ac hA => ?_
 refine wn (hK106 _ _ ?_)
 refine wp_ret ?_
 cases hF
 refine hQ _ _ ?_
 refine lv Tryd.results41 hA rfl ?_
 exact ⟨A109, n110, c111, rfl, hS⟩
theorem F_segment_Segment_Chunks {r : World} {L : List HP} {w : World} {Z : Nat → Prop} {wz : World} (a0 : (Option S83)) (p0 : Option Addr) {y : ((List S41))} (hF : segment_Segment_Chunks a0 = some y) (qz : Nat) (hZ : L[qz]? = some (zone Z wz)) (hS : SH r (optP (obj83 Z wz) p0 a0 :: L) w) :
  Ret Tryd.prog 15 #[.pointer p0] w fun v w' => ∃ (B0 : Option Addr) (m0 : Nat) (d0 : Nat), v = .slice B0 m0 d0 ∧ SH r (own k41 41 B0 m0 d0 y :: optP (obj83 Z wz) p0 a0 :: L) w' := by
 refine enter Tryd.func15 rfl Tryd.ntmps15 [(0, .pointer p0)] rfl (by simp) ?_
 intro ac hA Qf hQ hQn
 unfold segment_Segment_Chunks at hF
 cases a0 with
 | none =>
  have hU := SH.unoptN hS
  clear hS
  obtain ⟨rfl, hS⟩ := hU
  refine ws fun K103 hK103 => ?_
  refine x_m hA rfl fun ac hA => ?_
  refine wn (hK103 _ _ ?_)
  refine wp_seq_k fun K104 hK104 => ?_
  refine ws fun K105 hK105 => ?_
  refine x_m hA rfl fun ac hA => ?_
  refine x_v (v := .bool true) hA (r_eqNilP (p := none) Tryd.underlying35 rfl (hA.ev rfl) (hA.ev rfl)) rfl fun ac hA => ?_
  refine wn (hK105 _ _ ?_)
  refine c_t (b := true) rfl hA ?_ rfl
  refine ws fun K106 hK106 => ?_
  refine x_m hA rfl fun ac hA => ?_
  refine wn (hK106 _ _ ?_)
  refine wp_ret ?_
  replace hS := SH.nil_own (d := k41) (e := 41) hS
  replace hS := SH.optN (obj83 Z wz) hS
  replace hS := hS.pk 1
  cases hF
  refine hQ _ _ ?_
  refine lv Tryd.results15 hA rfl ?_
  exact ⟨none, 0, 0, rfl, hS⟩
 | some x101 =>
  have hU := SH.unoptS hS
  clear hS
  obtain ⟨g102, rfl, hS⟩ := hU
  obtain ⟨A107, n108, c109, A111, n112, c113, hS⟩ := obj83_open hS
  replace hS := hS.pk 2
  have hQ0 := SH.unpure hS
  clear hS
  obtain ⟨h110, hS⟩ := hQ0
  refine ws fun K114 hK114 => ?_
  refine x_m hA rfl fun ac hA => ?_
  refine wn (hK114 _ _ ?_)
  refine wp_seq_k fun K115 hK115 => ?_
  refine ws fun K116 hK116 => ?_
  refine x_m hA rfl fun ac hA => ?_
  refine x_v (v := .bool false) hA (r_eqNilP (p := some ⟨g102, 0, none⟩) Tryd.underlying35 rfl (hA.ev rfl) (hA.ev rfl)) rfl fun ac hA => ?_
  refine wn (hK116 _ _ ?_)
  refine c_f (b := false) rfl hA ?_ rfl
  refine wp_skip ?_
  refine hK115 _ _ ?_
  refine ws fun K117 hK117 => ?_
  refine x_m hA rfl fun ac hA => ?_
  refine x_v hA (r_nilCheck rfl (hA.ev rfl)) rfl fun ac hA => ?_
  refine x_fab fa83_2 hA (fun ac hA => ?_) rfl rfl rfl rfl rfl
  refine x_ld Tryd.underlying38 (hS.cell 0 rfl 2 _ rfl) hA (fun ac hA => ?_) rfl rfl rfl rfl rfl rfl
  obtain ⟨y118, h119, hF⟩ := bnd hF
  refine x_call en41 hA (F_slices_Clone_segment_Chunk_segment_Chunk (L := blk g102 83 [.slice A107 n108 c109, .int .i64 x101.f1, .slice A111 n112 c113] :: own k41 41 A111 n112 c113 x101.f2 :: L) x101.f2 A111 n112 c113 h119 (RdL.own 1 rfl (hS.dropN 0)) hS) (fun v ac w hR hA => ?_) rfl rfl rfl rfl rfl
  obtain ⟨B120, m121, d122, rfl, hS⟩ := hR
  refine x_m hA rfl fun ac hA => ?_
  refine wn (hK117 _ _ ?_)
  refine wp_ret ?_
  replace hS := SH.pure_ h110 hS
  replace hS := hS.pk 3
  replace hS := hS.pk 3
  replace hS := obj83_mk (x := x101) hS
  replace hS := SH.optS hS
  replace hS := hS.pk 1
  cases hF
  refine hQ _ _ ?_
  refine lv Tryd.results15 hA rfl ?_
  exact ⟨B120, m121, d122, rfl, hS⟩
end Go.Proofs.YteodeedejjcmgaaDoor.M
namespace Go.Proofs.YteodeedejjcmgaaDoor.M
open Go Go.RowKit Go.Proofs.YteodeedejjcmgaaDoor.E
set_option linter.unusedVariables false
set_option linter.unusedSimpArgs false
noncomputable def law07_stretch_b1 (l1079 : (List S44)) : Option ((List S44)) :=
  some l1079
noncomputable def law07_stretch_x1_0 (l1303 : (List S44)) : Option ((List S44)) :=
  law07_stretch_b1 l1303
noncomputable def law07_stretch_b2 (x1199 : Int) (l1378 : (List S44)) : Option (((List S44) × Int) ⊕ (((List S44)))) :=
  ltt (IntKind.i64.wrap (x1199 + 1)) fun x1382 => (some (.inl (l1378, x1382)))
noncomputable def law07_stretch_j1 (a0 : (List S44)) (a1 : Int) (a2 : Int) (l1195 : (List S44)) (x1199 : Int) (b1311 : Bool) : Option (((List S44) × Int) ⊕ (((List S44)))) :=
  if b1311 = true then ((at_ a0 x1199).bind fun x1385 => (ltt (IntKind.u64.wrap (l1195.length : Int)) fun x1390 => (ltt (IntKind.u64.wrap (a1 + x1390)) fun x1392 => ((r06_Form (⟨x1392, x1385.f1, x1385.f2, x1385.f3, x1385.f4⟩ : S44) a2).bind fun y1395 => (if y1395 = true then (chk (l1195.length + [(⟨x1392, x1385.f1, x1385.f2, x1385.f3, x1385.f4⟩ : S44)].length ≤ 140737488355328 / 48) (law07_stretch_b2 x1199 (l1195 ++ [(⟨x1392, x1385.f1, x1385.f2, x1385.f3, x1385.f4⟩ : S44)]))) else (law07_stretch_b2 x1199 l1195)))))) else (some (.inr (l1195)))
noncomputable def law07_stretch_l1 (a0 : (List S44)) (a1 : Int) (a2 : Int) (l1195 : (List S44)) (x1199 : Int) : Option (((List S44) × Int) ⊕ (((List S44)))) :=
  if (decide (x1199 < (a0.length : Int))) = true then (law07_stretch_j1 a0 a1 a2 l1195 x1199 (decide (x1199 < 150))) else (law07_stretch_j1 a0 a1 a2 l1195 x1199 false)
noncomputable def law07_stretch (a0 : (List S44)) (a1 : Int) (a2 : Int) : Option ((List S44)) :=
  (loop (fun s => law07_stretch_l1 a0 a1 a2 s.1 s.2) ([], 0)).bind fun t => law07_stretch_x1_0 t
noncomputable def law07_awake_j1 (y347 : ((Option S83) × Int)) (b358 : Bool) : Option (Bool) :=
  if b358 = true then (some false) else ((segment_Segment_Chunks y347.1).bind fun y362 => (if ((y362.length : Int) == 3) = true then ((at_ y362 0).bind fun x369 => (if (x369.f0 == 64) = true then ((at_ y362 2).bind fun x373 => (if (x373.f0 == 2) = true then (some true) else (some false))) else (some false))) else (some false)))
noncomputable def law07_awake_b1 (l323 : (List S44)) : Option (Bool) :=
  (segment_Write l323 1).bind fun y332 => ((segment_Open y332.1).bind fun y347 => (if (y332.2 != 0) = true then (law07_awake_j1 y347 true) else (law07_awake_j1 y347 (y347.2 != 0))))
noncomputable def law07_awake_x1_0 (l429 : (List S44)) : Option (Bool) :=
  law07_awake_b1 l429
noncomputable def law07_awake_l1 (l405 : (List S44)) (x409 : Int) : Option (((List S44) × Int) ⊕ (((List S44)))) :=
  if (decide (x409 < 130)) = true then (ltt (IntKind.u64.wrap x409) fun x439 => (chk (l405.length + [(⟨x439, 0, x409, [], 0⟩ : S44)].length ≤ 140737488355328 / 48) (ltt (IntKind.i64.wrap (x409 + 1)) fun x446 => (some (.inl (l405 ++ [(⟨x439, 0, x409, [], 0⟩ : S44)], x446)))))) else (some (.inr (l405)))
noncomputable def law07_awake : Option (Bool) :=
  (loop (fun s => law07_awake_l1 s.1 s.2) ([], 0)).bind fun t => law07_awake_x1_0 t
end Go.Proofs.YteodeedejjcmgaaDoor.M
namespace Go.Proofs.YteodeedejjcmgaaDoor.M
open Go Go.RowKit Go.Proofs.YteodeedejjcmgaaDoor.E
set_option linter.unusedVariables false
set_option maxRecDepth 100000
set_option maxHeartbeats 4000000
set_option linter.unusedSimpArgs false
theorem F_law07_stretch {r : World} {L : List HP} {w : World} (a0 : (List S44)) (a1 : Int) (a2 : Int) (A0 : Option Addr) (n0 : Nat) (c0 : Nat) {y : ((List S44))} (hF : law07_stretch a0 a1 a2 = some y) (ha0 : RdL L k44 A0 n0 c0 a0) (hS : SH r (L) w) :
  Ret Tryd.prog 13 #[.slice A0 n0 c0, .int .u64 a1, .int .i64 a2] w fun v w' => ∃ (B0 : Option Addr) (m0 : Nat) (d0 : Nat), v = .slice B0 m0 d0 ∧ SH r (own k44 44 B0 m0 d0 y :: L) w' := by
 refine enter Tryd.func13 rfl Tryd.ntmps13 [(0, .slice A0 n0 c0), (1, .int .u64 a1), (2, .int .i64 a2)] rfl (by simp) ?_
 intro ac hA Qf hQ hQn
 unfold law07_stretch at hF
 refine ws fun K101 hK101 => ?_
 refine x_m hA rfl fun ac hA => ?_
 refine wn (hK101 _ _ ?_)
 refine ws fun K102 hK102 => ?_
 refine x_m hA rfl fun ac hA => ?_
 refine wn (hK102 _ _ ?_)
 refine wp_seq_k fun K103 hK103 => ?_
 refine ws fun K755 hK755 => ?_
 refine x_m hA rfl fun ac hA => ?_
 refine wn (hK755 _ _ ?_)
 refine wp_block_k fun Kx756 hKx756 => ?_
 have hb1 : ∀ (l1079 : (List S44)), law07_stretch_b1 l1079 = some y → ∀ (A1080 : Option Addr) (n1081 : Nat) (c1082 : Nat) (ac : Act) (w : World), FR 38 [] ac [(7, .slice A1080 n1081 c1082)] → SH r (own k44 44 A1080 n1081 c1082 l1079 :: L) w → Kx756 ac w := by
  intro l1079 hF A1080 n1081 c1082 ac w hA hS
  unfold law07_stretch_b1 at hF
  refine hKx756 _ _ ?_
  refine hK103 _ _ ?_
  refine ws fun K1083 hK1083 => ?_
  refine x_m hA rfl fun ac hA => ?_
  refine x_m hA rfl fun ac hA => ?_
  refine wn (hK1083 _ _ ?_)
  refine wp_ret ?_
  cases hF
  refine hQ _ _ ?_
  refine lv Tryd.results13 hA rfl ?_
  exact ⟨A1080, n1081, c1082, rfl, hS⟩
 obtain ⟨t1306, hl1306, hF⟩ := bnd hF
 have hx1306_0 : ∀ (l1303 : (List S44)), (l1303) = t1306 → ∀ (A1304 : Option Addr) (n1305 : Nat) (c1306 : Nat) (ac : Act) (w : World), FR 38 [] ac [(7, .slice A1304 n1305 c1306)] → SH r (own k44 44 A1304 n1305 c1306 l1303 :: L) w → Kx756 ac w := by
  intro l1303 ht A1304 n1305 c1306 ac w hA hS
  subst ht
  replace hF : law07_stretch_x1_0 l1303 = some y := hF
  unfold law07_stretch_x1_0 at hF
  exact hb1 l1303 hF A1304 n1305 c1306 ac w (hA.sub _ rfl) hS
 replace hS := SH.nil_own (d := k44) (e := 44) hS
 refine wp_loop_fn hl1306 (fun s ac w => ∃ (A1196 : Option Addr) (n1197 : Nat) (c1198 : Nat), FR 38 [] ac [(0, .slice A0 n0 c0), (1, .int .u64 a1), (2, .int .i64 a2), (7, .slice A1196 n1197 c1198), (8, .int .i64 s.2)] ∧ SH r (own k44 44 A1196 n1197 c1198 s.1 :: L) w) ⟨none, 0, 0, hA.sub _ rfl, hS⟩ ?_
 intro N1306 s1306 o1306 hF N1306_ T1306_ ac w hLab
 obtain ⟨l1195, x1199⟩ := s1306
 replace hF : law07_stretch_l1 a0 a1 a2 l1195 x1199 = some o1306 := hF
 unfold law07_stretch_l1 at hF
 try dsimp only at hLab
 obtain ⟨A1196, n1197, c1198, hA, hS⟩ := hLab
 refine wp_seq_k fun K1308 hK1308 => ?_
 refine wp_seq_k fun K1309 hK1309 => ?_
 have hj1 : ∀ (b1311 : Bool), law07_stretch_j1 a0 a1 a2 l1195 x1199 b1311 = some o1306 → ∀ (ac : Act) (w : World), FR 38 [] ac [(0, .slice A0 n0 c0), (1, .int .u64 a1), (2, .int .i64 a2), (7, .slice A1196 n1197 c1198), (8, .int .i64 x1199), (17, .bool b1311)] → SH r (own k44 44 A1196 n1197 c1198 l1195 :: L) w → K1309 ac w := by
  intro b1311 hF ac w hA hS
  unfold law07_stretch_j1 at hF
  refine hK1309 _ _ ?_
  refine c_if hA rfl (fun hb1312 => ?_) fun hb1312 => ?_
  ·replace hF := ift hb1312 hF
   refine wp_skip ?_
   refine hK1308 _ _ ?_
   refine wp_seq_k fun K1313 hK1313 => ?_
   refine wp_block_k fun Kx1358 hKx1358 => ?_
   have hb2 : ∀ (l1378 : (List S44)), law07_stretch_b2 x1199 l1378 = some o1306 → ∀ (A1379 : Option Addr) (n1380 : Nat) (c1381 : Nat) (ac : Act) (w : World), FR 38 [] ac [(0, .slice A0 n0 c0), (1, .int .u64 a1), (2, .int .i64 a2), (7, .slice A1379 n1380 c1381), (8, .int .i64 x1199)] → SH r (own k44 44 A1379 n1380 c1381 l1378 :: L) w → Kx1358 ac w := by
    intro l1378 hF A1379 n1380 c1381 ac w hA hS
    unfold law07_stretch_b2 at hF
    refine hKx1358 _ _ ?_
    refine hK1313 _ _ ?_
    refine wp_reg ?_
    refine x_m hA rfl fun ac hA => ?_
    obtain ⟨x1382, h1383, hF⟩ := ltt_ hF
    refine x_v (v := .int .i64 x1382) hA (rv_i h1383 (r_add rfl (hA.ev rfl) (hA.ev rfl))) rfl fun ac hA => ?_
    refine x_m hA rfl fun ac hA => ?_
    refine wpList_nil ?_
    cases hF
    exact ⟨_, N1306_ _ rfl, A1379, n1380, c1381, hA.sub _ rfl, hS⟩
   refine ws fun K1384 hK1384 => ?_
   refine x_m hA rfl fun ac hA => ?_
   refine x_m hA rfl fun ac hA => ?_
   obtain ⟨x1385, h1386, hF⟩ := bnd hF
   refine x_ia Tryd.underlying22 sz44 (hS.rdl 1 ha0 rfl) h1386 hA (fun ac hA => ?_) rfl rfl rfl rfl rfl rfl
   obtain ⟨cs, hV, hc1387⟩ := el (hS.rdl 1 ha0 rfl) h1386
   obtain rfl := hV
   refine x_lda (cs := [.int .u64 x1385.f0, .int .i64 x1385.f1, .int .i64 x1385.f2, str x1385.f3, .float .f64 x1385.f4]) Tryd.underlying44 sz44 (fun j u h => by rw [ea_add]; exact hc1387 _ _ h) hA (fun ac hA => ?_) rfl rfl rfl rfl rfl rfl
   refine x_alloc (cs := [.int .u64 0, .int .i64 0, .int .i64 0, str [], .float .f64 0]) zr44 hA hS (fun g1388 ac w hS hA => ?_) rfl rfl rfl rfl rfl
   refine x_stb 0 sz44 hA hS rfl (fun  ac w hS hA => ?_) rfl rfl rfl rfl rfl rfl rfl rfl
   refine wn (hK1384 _ _ ?_)
   refine ws fun K1389 hK1389 => ?_
   refine x_m hA rfl fun ac hA => ?_
   refine x_m hA rfl fun ac hA => ?_
   refine x_len Tryd.underlying22 (hS.rd 1 rfl).2.1 hA (fun ac hA => ?_) rfl rfl rfl rfl rfl
   obtain ⟨x1390, h1391, hF⟩ := ltt_ hF
   refine x_v (v := .int .u64 x1390) hA (rv_i h1391 (r_convI Tryd.underlying3 Tryd.underlying31 rfl (hA.ev rfl))) rfl fun ac hA => ?_
   obtain ⟨x1392, h1393, hF⟩ := ltt_ hF
   refine x_v (v := .int .u64 x1392) hA (rv_i h1393 (r_add rfl (hA.ev rfl) (hA.ev rfl))) rfl fun ac hA => ?_
   refine x_fab fa44_0 hA (fun ac hA => ?_) rfl rfl rfl rfl rfl
   refine x_stb 0 sz31 hA hS rfl (fun  ac w hS hA => ?_) rfl rfl rfl rfl rfl rfl rfl rfl
   refine wn (hK1389 _ _ ?_)
   refine ws fun K1394 hK1394 => ?_
   refine x_lda (ad := ⟨g1388, 0, none⟩) (cs := [.int .u64 x1392, .int .i64 x1385.f1, .int .i64 x1385.f2, str x1385.f3, .float .f64 x1385.f4]) Tryd.underlying44 sz44 (fun j u h => by rw [add_mk, Nat.zero_add]; exact hS.cell 0 rfl j u h) hA (fun ac hA => ?_) rfl rfl rfl rfl rfl rfl
   refine x_m hA rfl fun ac hA => ?_
   obtain ⟨y1395, h1396, hF⟩ := bnd hF
   refine x_call en31 hA (F_r06_Form (L := blk g1388 44 [.int .u64 x1392, .int .i64 x1385.f1, .int .i64 x1385.f2, str x1385.f3, .float .f64 x1385.f4] :: own k44 44 A1196 n1197 c1198 l1195 :: L) (⟨x1392, x1385.f1, x1385.f2, x1385.f3, x1385.f4⟩ : S44) a2 h1396 hS) (fun v ac w hR hA => ?_) rfl rfl rfl rfl rfl
   obtain ⟨rfl, hS⟩ := hR
   refine wn (hK1394 _ _ ?_)
   refine c_if hA rfl (fun hb1397 => ?_) fun hb1397 => ?_
   ·replace hF := ift hb1397 hF
    refine wp_reg ?_
    refine x_m hA rfl fun ac hA => ?_
    refine x_lda (ad := ⟨g1388, 0, none⟩) (cs := [.int .u64 x1392, .int .i64 x1385.f1, .int .i64 x1385.f2, str x1385.f3, .float .f64 x1385.f4]) Tryd.underlying44 sz44 (fun j u h => by rw [add_mk, Nat.zero_add]; exact hS.cell 0 rfl j u h) hA (fun ac hA => ?_) rfl rfl rfl rfl rfl rfl
    refine x_bsl (d := k44) (e := 44) (ps := #[(0, .agg #[.int .u64 x1392, .int .i64 x1385.f1, .int .i64 x1385.f2, str x1385.f3, .float .f64 x1385.f4])]) (cells := [.int .u64 x1392, .int .i64 x1385.f1, .int .i64 x1385.f2, str x1385.f3, .float .f64 x1385.f4]) (xs := [(⟨x1392, x1385.f1, x1385.f2, x1385.f3, x1385.f4⟩ : S44)]) (fun w => by kernel_rfl) rfl ⟨[.int .u64 x1392, .int .i64 x1385.f1, .int .i64 x1385.f2, str x1385.f3, .float .f64 x1385.f4], _, rfl, rfl, rfl⟩ hA hS (fun g1398 ac w hS hA => ?_) rfl rfl rfl rfl rfl rfl
    obtain ⟨h1399, hF⟩ := chk_some hF
    have hr := hS.rd 0 rfl
    refine x_app 2 inf44 Tryd.underlying22 hA hS hr.1 hr.2.1 h1399 rfl (fun A1400 n1401 c1402 ac w hS hA => ?_) rfl rfl rfl rfl rfl rfl rfl rfl rfl
    refine x_m hA rfl fun ac hA => ?_
    refine wpList_nil ?_
    replace hS := hS.drop 1
    replace hS := hS.drop 1
    exact hb2 (l1195 ++ [(⟨x1392, x1385.f1, x1385.f2, x1385.f3, x1385.f4⟩ : S44)]) hF A1400 n1401 c1402 ac w (hA.sub _ rfl) hS
   replace hF := iff' hb1397 hF
   refine wp_skip ?_
   replace hS := hS.drop 0
   exact hb2 l1195 hF A1196 n1197 c1198 ac w (hA.sub _ rfl) hS
  replace hF := iff' hb1312 hF
  refine wp_exit ?_
  cases hF
  exact hx1306_0 l1195 (T1306_ _ rfl) A1196 n1197 c1198 ac w (hA.sub _ rfl) hS
 refine wp_reg ?_
 refine x_m hA rfl fun ac hA => ?_
 refine x_m hA rfl fun ac hA => ?_
 refine x_len Tryd.underlying22 (hS.rdl 1 ha0 rfl).2.1 hA (fun ac hA => ?_) rfl rfl rfl rfl rfl
 refine x_v hA (r_ltI rfl (hA.ev rfl) (hA.ev rfl)) rfl fun ac hA => ?_
 refine x_m hA rfl fun ac hA => ?_
 refine bcase (b := decide (x1199 < (a0.length : Int))) (fun hb1403 => ?_) fun hb1403 => ?_
 ·replace hF := ift hb1403 hF
  refine x_on hb1403 hA ?_ rfl rfl rfl
  refine x_m hA rfl fun ac hA => ?_
  refine x_on hb1403 hA ?_ rfl rfl rfl
  refine x_v hA (r_ltI rfl (hA.ev rfl) (hA.ev rfl)) rfl fun ac hA => ?_
  refine x_pickt hb1403 hA (fun ac hA => ?_) rfl rfl rfl rfl rfl rfl
  refine wpList_nil ?_
  exact hj1 (decide (x1199 < 150)) hF ac w (hA.sub _ rfl) hS
 replace hF := iff' hb1403 hF
 refine x_off hb1403 hA (fun ac hA => ?_) rfl rfl rfl rfl rfl
 refine x_off hb1403 hA (fun ac hA => ?_) rfl rfl rfl rfl rfl
 refine x_pickf hb1403 hA (fun ac hA => ?_) rfl rfl rfl rfl rfl rfl
 refine wpList_nil ?_
 exact hj1 false hF ac w (hA.sub _ rfl) hS
theorem F_law07_awake {r : World} {L : List HP} {w : World} {Z : Nat → Prop} {wz : World} {y : (Bool)} (hF : law07_awake = some y) (hG0 : Imm Z wz (kI .u32) (some ⟨0, 0, none⟩) 16 16 gl_page_table) (hS : SH r (zone Z wz :: L) w) :
  Ret Tryd.prog 10 #[] w fun v w' => ∃ (Z' : Nat → Prop) (wz' : World), v = .bool y ∧ Sub Z wz Z' wz' ∧ SH r (zone Z' wz' :: L) w' := by
 refine enter Tryd.func10 rfl Tryd.ntmps10 [] rfl (by simp) ?_
 intro ac hA Qf hQ hQn
 unfold law07_awake at hF
 refine ws fun K101 hK101 => ?_
 refine x_m hA rfl fun ac hA => ?_
 refine wn (hK101 _ _ ?_)
 refine ws fun K102 hK102 => ?_
 refine x_m hA rfl fun ac hA => ?_
 refine wn (hK102 _ _ ?_)
 refine wp_seq_k fun K103 hK103 => ?_
 refine ws fun K251 hK251 => ?_
 refine x_m hA rfl fun ac hA => ?_
 refine wn (hK251 _ _ ?_)
 refine wp_block_k fun Kx252 hKx252 => ?_
 have hb1 : ∀ (l323 : (List S44)), law07_awake_b1 l323 = some y → ∀ (A324 : Option Addr) (n325 : Nat) (c326 : Nat) (ac : Act) (w : World), FR 58 [] ac [(1, .slice A324 n325 c326)] → SH r (own k44 44 A324 n325 c326 l323 :: zone Z wz :: L) w → Kx252 ac w := by
  intro l323 hF A324 n325 c326 ac w hA hS
  unfold law07_awake_b1 at hF
  refine hKx252 _ _ ?_
  refine hK103 _ _ ?_
  refine ws fun K327 hK327 => ?_
  refine x_m hA rfl fun ac hA => ?_
  replace hS := hS.pk 1
  replace hS := hS.pk 1
  obtain ⟨Z328, wz329, hS, h330, sb331⟩ := SH.freeze (n := n325) (c := c326) (A := A324) hS
  obtain ⟨y332, h333, hF⟩ := bnd hF
  refine x_call en11 hA (F_segment_Write (L := L) l323 1 A324 n325 c326 h333 h330 (Imm.sub hG0 sb331) hS) (fun v ac w hR hA => ?_) rfl rfl rfl rfl rfl
  obtain ⟨Z334, wz335, B336, m337, d338, rfl, h339, hS⟩ := hR
  have h340 := Imm.sub h330 h339
  refine x_m hA rfl fun ac hA => ?_
  refine x_v hA (r_extract rfl (hA.ev rfl) rfl) rfl fun ac hA => ?_
  refine x_v hA (r_extract rfl (hA.ev rfl) rfl) rfl fun ac hA => ?_
  refine x_m hA rfl fun ac hA => ?_
  refine x_m hA rfl fun ac hA => ?_
  refine wn (hK327 _ _ ?_)
  refine ws fun K341 hK341 => ?_
  refine x_m hA rfl fun ac hA => ?_
  replace hS := hS.pk 1
  replace hS := hS.pk 1
  obtain ⟨Z342, wz343, hS, h344, sb345⟩ := SH.freeze (n := m337) (c := d338) (A := B336) hS
  have h346 := Imm.sub h340 sb345
  obtain ⟨y347, h348, hF⟩ := bnd hF
  refine x_call en14 hA (F_segment_Open (L := L) y332.1 B336 m337 d338 h348 h344 (Imm.sub hG0 (Sub.trans (Sub.trans sb331 h339) sb345)) hS) (fun v ac w hR hA => ?_) rfl rfl rfl rfl rfl
  obtain ⟨Z349, wz350, p351, rfl, h352, hS⟩ := hR
  have h353 := Imm.sub h346 h352
  have h354 := Imm.sub h344 h352
  refine x_m hA rfl fun ac hA => ?_
  refine x_v hA (r_extract rfl (hA.ev rfl) rfl) rfl fun ac hA => ?_
  refine x_v hA (r_extract rfl (hA.ev rfl) rfl) rfl fun ac hA => ?_
  refine x_m hA rfl fun ac hA => ?_
  refine x_m hA rfl fun ac hA => ?_
  refine wn (hK341 _ _ ?_)
  refine wp_seq_k fun K355 hK355 => ?_
  refine wp_seq_k fun K356 hK356 => ?_
  have hj1 : ∀ (b358 : Bool), law07_awake_j1 y347 b358 = some y → ∀ (ac : Act) (w : World), FR 58 [] ac [(5, .pointer p351), (34, .bool b358)] → SH r (optP (obj83 Z349 wz350) p351 y347.1 :: zone Z349 wz350 :: L) w → K356 ac w := by
   intro b358 hF ac w hA hS
   unfold law07_awake_j1 at hF
   refine hK356 _ _ ?_
   refine c_if hA rfl (fun hb359 => ?_) fun hb359 => ?_
   ·replace hF := ift hb359 hF
    refine ws fun K360 hK360 => ?_
    refine x_m hA rfl fun ac hA => ?_
    refine wn (hK360 _ _ ?_)
    refine wp_ret ?_
    replace hS := hS.drop 0
    cases hF
    refine hQ _ _ ?_
    refine lv Tryd.results10 hA rfl ?_
    exact ⟨Z349, wz350, rfl, (Sub.trans (Sub.trans (Sub.trans sb331 h339) sb345) h352), hS⟩
   replace hF := iff' hb359 hF
   refine wp_skip ?_
   refine hK355 _ _ ?_
   refine ws fun K361 hK361 => ?_
   refine x_m hA rfl fun ac hA => ?_
   obtain ⟨y362, h363, hF⟩ := bnd hF
   refine x_call en15 hA (F_segment_Segment_Chunks (L := zone Z349 wz350 :: L) y347.1 p351 h363 0 rfl hS) (fun v ac w hR hA => ?_) rfl rfl rfl rfl rfl
   obtain ⟨B364, m365, d366, rfl, hS⟩ := hR
   refine x_m hA rfl fun ac hA => ?_
   refine wn (hK361 _ _ ?_)
   refine ws fun K367 hK367 => ?_
   refine x_m hA rfl fun ac hA => ?_
   refine x_len Tryd.underlying38 (hS.rd 0 rfl).2.1 hA (fun ac hA => ?_) rfl rfl rfl rfl rfl
   refine x_v hA (r_eqI rfl (hA.ev rfl) (hA.ev rfl)) rfl fun ac hA => ?_
   refine x_m hA rfl fun ac hA => ?_
   refine bcase (b := (y362.length : Int) == 3) (fun hb368 => ?_) fun hb368 => ?_
   ·replace hF := ift hb368 hF
    refine x_on hb368 hA ?_ rfl rfl rfl
    refine x_m hA rfl fun ac hA => ?_
    refine x_on hb368 hA ?_ rfl rfl rfl
    obtain ⟨x369, h370, hF⟩ := bnd hF
    refine x_ia Tryd.underlying38 sz41 (hS.rd 0 rfl) h370 hA (fun ac hA => ?_) rfl rfl rfl rfl rfl rfl
    refine x_on hb368 hA ?_ rfl rfl rfl
    refine x_fae (m := (0 : Int).toNat * 8) fa41_0 hA (fun ac hA => ?_) rfl rfl rfl rfl rfl
    refine x_on hb368 hA ?_ rfl rfl rfl
    obtain ⟨cs, hV, hc371⟩ := el (hS.rd 0 rfl) h370
    obtain rfl := hV
    refine x_ld Tryd.underlying3 (hc371 0 _ rfl) hA (fun ac hA => ?_) rfl rfl rfl rfl rfl rfl
    refine x_on hb368 hA ?_ rfl rfl rfl
    refine x_v hA (r_eqI rfl (hA.ev rfl) (hA.ev rfl)) rfl fun ac hA => ?_
    refine x_pickt hb368 hA (fun ac hA => ?_) rfl rfl rfl rfl rfl rfl
    refine x_m hA rfl fun ac hA => ?_
    refine bcase (b := x369.f0 == 64) (fun hb372 => ?_) fun hb372 => ?_
    ·replace hF := ift hb372 hF
     refine x_on hb372 hA ?_ rfl rfl rfl
     refine x_m hA rfl fun ac hA => ?_
     refine x_on hb372 hA ?_ rfl rfl rfl
     obtain ⟨x373, h374, hF⟩ := bnd hF
     refine x_ia Tryd.underlying38 sz41 (hS.rd 0 rfl) h374 hA (fun ac hA => ?_) rfl rfl rfl rfl rfl rfl
     refine x_on hb372 hA ?_ rfl rfl rfl
     refine x_fae (m := (2 : Int).toNat * 8) fa41_0 hA (fun ac hA => ?_) rfl rfl rfl rfl rfl
     refine x_on hb372 hA ?_ rfl rfl rfl
     obtain ⟨cs, hV, hc375⟩ := el (hS.rd 0 rfl) h374
     obtain rfl := hV
     refine x_ld Tryd.underlying3 (hc375 0 _ rfl) hA (fun ac hA => ?_) rfl rfl rfl rfl rfl rfl
     refine x_on hb372 hA ?_ rfl rfl rfl
     refine x_v hA (r_eqI rfl (hA.ev rfl) (hA.ev rfl)) rfl fun ac hA => ?_
     refine x_pickt hb372 hA (fun ac hA => ?_) rfl rfl rfl rfl rfl rfl
     refine x_m hA rfl fun ac hA => ?_
     refine bcase (b := x373.f0 == 2) (fun hb376 => ?_) fun hb376 => ?_
     ·replace hF := ift hb376 hF
      refine x_pickt hb376 hA (fun ac hA => ?_) rfl rfl rfl rfl rfl rfl
      refine x_m hA rfl fun ac hA => ?_
      refine x_pickt rfl hA (fun ac hA => ?_) rfl rfl rfl rfl rfl rfl
      refine x_m hA rfl fun ac hA => ?_
      refine wn (hK367 _ _ ?_)
      refine wp_ret ?_
      replace hS := hS.drop 0
      replace hS := hS.drop 0
      cases hF
      refine hQ _ _ ?_
      refine lv Tryd.results10 hA rfl ?_
      exact ⟨Z349, wz350, rfl, (Sub.trans (Sub.trans (Sub.trans sb331 h339) sb345) h352), hS⟩
     replace hF := iff' hb376 hF
     refine x_pickf hb376 hA (fun ac hA => ?_) rfl rfl rfl rfl rfl rfl
     refine x_m hA rfl fun ac hA => ?_
     refine x_pickf rfl hA (fun ac hA => ?_) rfl rfl rfl rfl rfl rfl
     refine x_m hA rfl fun ac hA => ?_
     refine wn (hK367 _ _ ?_)
     refine wp_ret ?_
     replace hS := hS.drop 0
     replace hS := hS.drop 0
     cases hF
     refine hQ _ _ ?_
     refine lv Tryd.results10 hA rfl ?_
     exact ⟨Z349, wz350, rfl, (Sub.trans (Sub.trans (Sub.trans sb331 h339) sb345) h352), hS⟩
    replace hF := iff' hb372 hF
    refine x_off hb372 hA (fun ac hA => ?_) rfl rfl rfl rfl rfl
    refine x_off hb372 hA (fun ac hA => ?_) rfl rfl rfl rfl rfl
    refine x_off hb372 hA (fun ac hA => ?_) rfl rfl rfl rfl rfl
    refine x_off hb372 hA (fun ac hA => ?_) rfl rfl rfl rfl rfl
    refine x_off hb372 hA (fun ac hA => ?_) rfl rfl rfl rfl rfl
    refine x_pickf hb372 hA (fun ac hA => ?_) rfl rfl rfl rfl rfl rfl
    refine x_m hA rfl fun ac hA => ?_
    refine x_pickf rfl hA (fun ac hA => ?_) rfl rfl rfl rfl rfl rfl
    refine x_m hA rfl fun ac hA => ?_
    refine x_pickf rfl hA (fun ac hA => ?_) rfl rfl rfl rfl rfl rfl
    refine x_m hA rfl fun ac hA => ?_
    refine wn (hK367 _ _ ?_)
    refine wp_ret ?_
    replace hS := hS.drop 0
    replace hS := hS.drop 0
    cases hF
    refine hQ _ _ ?_
    refine lv Tryd.results10 hA rfl ?_
    exact ⟨Z349, wz350, rfl, (Sub.trans (Sub.trans (Sub.trans sb331 h339) sb345) h352), hS⟩
   replace hF := iff' hb368 hF
   refine x_off hb368 hA (fun ac hA => ?_) rfl rfl rfl rfl rfl
   refine x_off hb368 hA (fun ac hA => ?_) rfl rfl rfl rfl rfl
   refine x_off hb368 hA (fun ac hA => ?_) rfl rfl rfl rfl rfl
   refine x_off hb368 hA (fun ac hA => ?_) rfl rfl rfl rfl rfl
   refine x_off hb368 hA (fun ac hA => ?_) rfl rfl rfl rfl rfl
   refine x_pickf hb368 hA (fun ac hA => ?_) rfl rfl rfl rfl rfl rfl
   refine x_m hA rfl fun ac hA => ?_
   refine x_off rfl hA (fun ac hA => ?_) rfl rfl rfl rfl rfl
   refine x_off rfl hA (fun ac hA => ?_) rfl rfl rfl rfl rfl
   refine x_off rfl hA (fun ac hA => ?_) rfl rfl rfl rfl rfl
   refine x_off rfl hA (fun ac hA => ?_) rfl rfl rfl rfl rfl
   refine x_off rfl hA (fun ac hA => ?_) rfl rfl rfl rfl rfl
   refine x_pickf rfl hA (fun ac hA => ?_) rfl rfl rfl rfl rfl rfl
   refine x_m hA rfl fun ac hA => ?_
   refine x_pickf rfl hA (fun ac hA => ?_) rfl rfl rfl rfl rfl rfl
   refine x_m hA rfl fun ac hA => ?_
   refine x_pickf rfl hA (fun ac hA => ?_) rfl rfl rfl rfl rfl rfl
   refine x_m hA rfl fun ac hA => ?_
   refine wn (hK367 _ _ ?_)
   refine wp_ret ?_
   replace hS := hS.drop 0
   replace hS := hS.drop 0
   cases hF
   refine hQ _ _ ?_
   refine lv Tryd.results10 hA rfl ?_
   exact ⟨Z349, wz350, rfl, (Sub.trans (Sub.trans (Sub.trans sb331 h339) sb345) h352), hS⟩
  refine wp_reg ?_
  refine x_m hA rfl fun ac hA => ?_
  refine x_v hA (r_neI rfl (hA.ev rfl) (hA.ev rfl)) rfl fun ac hA => ?_
  refine x_m hA rfl fun ac hA => ?_
  refine bcase (b := y332.2 != 0) (fun hb377 => ?_) fun hb377 => ?_
  ·replace hF := ift hb377 hF
   refine x_off hb377 hA (fun ac hA => ?_) rfl rfl rfl rfl rfl
   refine x_off hb377 hA (fun ac hA => ?_) rfl rfl rfl rfl rfl
   refine x_pickt hb377 hA (fun ac hA => ?_) rfl rfl rfl rfl rfl rfl
   refine wpList_nil ?_
   exact hj1 true hF ac w (hA.sub _ rfl) hS
  replace hF := iff' hb377 hF
  refine x_on hb377 hA ?_ rfl rfl rfl
  refine x_m hA rfl fun ac hA => ?_
  refine x_on hb377 hA ?_ rfl rfl rfl
  refine x_v hA (r_neI rfl (hA.ev rfl) (hA.ev rfl)) rfl fun ac hA => ?_
  refine x_pickf hb377 hA (fun ac hA => ?_) rfl rfl rfl rfl rfl rfl
  refine wpList_nil ?_
  exact hj1 (y347.2 != 0) hF ac w (hA.sub _ rfl) hS
 obtain ⟨t432, hl432, hF⟩ := bnd hF
 have hx432_0 : ∀ (l429 : (List S44)), (l429) = t432 → ∀ (A430 : Option Addr) (n431 : Nat) (c432 : Nat) (ac : Act) (w : World), FR 58 [] ac [(1, .slice A430 n431 c432)] → SH r (own k44 44 A430 n431 c432 l429 :: zone Z wz :: L) w → Kx252 ac w := by
  intro l429 ht A430 n431 c432 ac w hA hS
  subst ht
  replace hF : law07_awake_x1_0 l429 = some y := hF
  unfold law07_awake_x1_0 at hF
  exact hb1 l429 hF A430 n431 c432 ac w (hA.sub _ rfl) hS
 replace hS := SH.nil_own (d := k44) (e := 44) hS
 refine wp_loop_fn hl432 (fun s ac w => ∃ (A406 : Option Addr) (n407 : Nat) (c408 : Nat), FR 58 [] ac [(1, .slice A406 n407 c408), (2, .int .i64 s.2)] ∧ SH r (own k44 44 A406 n407 c408 s.1 :: zone Z wz :: L) w) ⟨none, 0, 0, hA.sub _ rfl, hS⟩ ?_
 intro N432 s432 o432 hF N432_ T432_ ac w hLab
 obtain ⟨l405, x409⟩ := s432
 replace hF : law07_awake_l1 l405 x409 = some o432 := hF
 unfold law07_awake_l1 at hF
 try dsimp only at hLab
 obtain ⟨A406, n407, c408, hA, hS⟩ := hLab
 refine wp_seq_k fun K434 hK434 => ?_
 refine ws fun K435 hK435 => ?_
 refine x_m hA rfl fun ac hA => ?_
 refine x_v hA (r_ltI rfl (hA.ev rfl) (hA.ev rfl)) rfl fun ac hA => ?_
 refine wn (hK435 _ _ ?_)
 refine c_if hA rfl (fun hb436 => ?_) fun hb436 => ?_
 ·replace hF := ift hb436 hF
  refine wp_skip ?_
  refine hK434 _ _ ?_
  refine wp_seq_k fun K437 hK437 => ?_
  refine wp_block_k fun Kx438 hKx438 => ?_
  refine wp_reg ?_
  refine x_m hA rfl fun ac hA => ?_
  refine x_m hA rfl fun ac hA => ?_
  obtain ⟨x439, h440, hF⟩ := ltt_ hF
  refine x_v (v := .int .u64 x439) hA (rv_i h440 (r_convI Tryd.underlying3 Tryd.underlying31 rfl (hA.ev rfl))) rfl fun ac hA => ?_
  refine x_m hA rfl fun ac hA => ?_
  refine x_v (v := .agg #[.int .u64 x439, .int .i64 0, .int .i64 x409, str [], .float .f64 0]) hA (r_build (ps := #[(0, .int .u64 x439), (2, .int .i64 x409)]) rfl (mapev2 hA rfl) (fun w => by kernel_rfl)) rfl fun ac hA => ?_
  refine x_bsl (d := k44) (e := 44) (ps := #[(0, .agg #[.int .u64 x439, .int .i64 0, .int .i64 x409, str [], .float .f64 0])]) (cells := [.int .u64 x439, .int .i64 0, .int .i64 x409, str [], .float .f64 0]) (xs := [(⟨x439, 0, x409, [], 0⟩ : S44)]) (fun w => by kernel_rfl) rfl ⟨[.int .u64 x439, .int .i64 0, .int .i64 x409, str [], .float .f64 0], _, rfl, rfl, rfl⟩ hA hS (fun g441 ac w hS hA => ?_) rfl rfl rfl rfl rfl rfl
  obtain ⟨h442, hF⟩ := chk_some hF
  have hr := hS.rd 0 rfl
  refine x_app 1 inf44 Tryd.underlying22 hA hS hr.1 hr.2.1 h442 rfl (fun A443 n444 c445 ac w hS hA => ?_) rfl rfl rfl rfl rfl rfl rfl rfl rfl
  refine x_m hA rfl fun ac hA => ?_
  refine wpList_nil ?_
  refine hKx438 _ _ ?_
  refine hK437 _ _ ?_
  refine wp_reg ?_
  refine x_m hA rfl fun ac hA => ?_
  obtain ⟨x446, h447, hF⟩ := ltt_ hF
  refine x_v (v := .int .i64 x446) hA (rv_i h447 (r_add rfl (hA.ev rfl) (hA.ev rfl))) rfl fun ac hA => ?_
  refine x_m hA rfl fun ac hA => ?_
  refine wpList_nil ?_
  replace hS := hS.drop 1
  cases hF
  exact ⟨_, N432_ _ rfl, A443, n444, c445, hA.sub _ rfl, hS⟩
 replace hF := iff' hb436 hF
 refine wp_exit ?_
 cases hF
 exact hx432_0 l405 (T432_ _ rfl) A406 n407 c408 ac w (hA.sub _ rfl) hS
end Go.Proofs.YteodeedejjcmgaaDoor.M
namespace Go.Proofs.YteodeedejjcmgaaDoor.M
open Go Go.RowKit Go.Proofs.YteodeedejjcmgaaDoor.E
set_option linter.unusedVariables false
set_option linter.unusedSimpArgs false
noncomputable def law07_SegmentChunks_b1 (y131 : ((List S44))) (x18610 : Int) : Option (Bool) :=
  some (x18610 == (y131.length : Int))
noncomputable def law07_SegmentChunks_x1_0 (y131 : ((List S44))) (x22706 : Int) : Option (Bool) :=
  law07_SegmentChunks_b1 y131 x22706
noncomputable def law07_SegmentChunks_j2 (y177 : ((List S41))) (x20658 : Int) (x20659 : Int) (b24233 : Bool) : Option ((Int × Int) ⊕ ((Int) ⊕ (Bool))) :=
  if b24233 = true then (some (.inr (.inr false))) else ((at_ y177 x20659).bind fun x24236 => (ltt (IntKind.i64.wrap (x20658 + x24236.f0)) fun x24239 => (ltt (IntKind.i64.wrap (x20659 + 1)) fun x24241 => (some (.inl (x24239, x24241))))))
noncomputable def law07_SegmentChunks_b2 (a2 : S33) (y177 : ((List S41))) (x20658 : Int) (x20659 : Int) (b24224 : Bool) : Option ((Int × Int) ⊕ ((Int) ⊕ (Bool))) :=
  if b24224 = true then ((at_ y177 x20659).bind fun x24244 => ((segment_Filter_May a2 x24244).bind fun y24247 => (law07_SegmentChunks_j2 y177 x20658 x20659 (!y24247)))) else (law07_SegmentChunks_j2 y177 x20658 x20659 false)
noncomputable def law07_SegmentChunks_x2_2 (a2 : S33) (y177 : ((List S41))) (x20658 : Int) (x20659 : Int) (b24581 : Bool) : Option ((Int × Int) ⊕ ((Int) ⊕ (Bool))) :=
  law07_SegmentChunks_b2 a2 y177 x20658 x20659 b24581
noncomputable def law07_SegmentChunks_b3 (x24411 : Int) (b24708 : Bool) : Option ((Bool × Int) ⊕ ((Bool) ⊕ (Bool))) :=
  ltt (IntKind.i64.wrap (x24411 + 1)) fun x24709 => (some (.inl (b24708, x24709)))
noncomputable def law07_SegmentChunks_j3 (a2 : S33) (b24410 : Bool) (x24411 : Int) (x24714 : S44) (b24731 : Bool) : Option ((Bool × Int) ⊕ ((Bool) ⊕ (Bool))) :=
  if b24731 = true then (some (.inr (.inr false))) else (if b24410 = true then (law07_SegmentChunks_b3 x24411 true) else ((segment_Filter_Wants a2 x24714).bind fun y24735 => (law07_SegmentChunks_b3 x24411 y24735)))
noncomputable def law07_SegmentChunks_l2 (a2 : S33) (y131 : ((List S44))) (y177 : ((List S41))) (x20658 : Int) (x20659 : Int) (b24410 : Bool) (x24411 : Int) : Option ((Bool × Int) ⊕ ((Bool) ⊕ (Bool))) :=
  (at_ y177 x20659).bind fun x24585 => (if (decide (x24411 < x24585.f0)) = true then (ltt (IntKind.i64.wrap (x20658 + x24411)) fun x24712 => ((at_ y131 x24712).bind fun x24714 => (if (decide (x24714.f0 < x24585.f2)) = true then (law07_SegmentChunks_j3 a2 b24410 x24411 x24714 true) else (if (decide (x24585.f3 < x24714.f0)) = true then (law07_SegmentChunks_j3 a2 b24410 x24411 x24714 true) else (if (decide (x24714.f2 < x24585.f4)) = true then (law07_SegmentChunks_j3 a2 b24410 x24411 x24714 true) else (if (decide (x24585.f5 < x24714.f2)) = true then (law07_SegmentChunks_j3 a2 b24410 x24411 x24714 true) else (if (Op.bytesLess x24714.f3 x24585.f6) = true then (law07_SegmentChunks_j3 a2 b24410 x24411 x24714 true) else (law07_SegmentChunks_j3 a2 b24410 x24411 x24714 (!(Op.bytesLess x24714.f3 x24585.f7 || x24714.f3 == x24585.f7)))))))))) else (some (.inr (.inl (b24410)))))
noncomputable def law07_SegmentChunks_l1 (a2 : S33) (y131 : ((List S44))) (y177 : ((List S41))) (x20658 : Int) (x20659 : Int) : Option ((Int × Int) ⊕ ((Int) ⊕ (Bool))) :=
  if (decide (x20659 < (y177.length : Int))) = true then ((loop (fun s => law07_SegmentChunks_l2 a2 y131 y177 x20658 x20659 s.1 s.2) (false, 0)).bind fun t => match t with | (.inl t) => law07_SegmentChunks_x2_2 a2 y177 x20658 x20659 t | (.inr t) => some (.inr (.inr t))) else (some (.inr (.inl (x20658))))
noncomputable def law07_SegmentChunks_j1 (a0 : (List S44)) (a1 : Int) (a2 : S33) (b116 : Bool) : Option (Bool) :=
  if b116 = true then ((law07_awake).bind fun y119 => (some y119)) else (ltt (IntKind.i64.wrap a1) fun x126 => (ltt (IntKind.i64.wrap (1 + (x126.tmod 8))) fun x128 => ((law07_stretch a0 5 x128).bind fun y131 => (if ((y131.length : Int) == 0) = true then (some true) else ((segment_Write y131 x128).bind fun y146 => ((segment_Open y146.1).bind fun y163 => (if (y163.2 != 0) = true then (some false) else ((segment_Segment_Chunks y163.1).bind fun y177 => ((loop (fun s => law07_SegmentChunks_l1 a2 y131 y177 s.1 s.2) (0, 0)).bind fun t => match t with | (.inl t) => law07_SegmentChunks_x1_0 y131 t | (.inr t) => some t)))))))))
noncomputable def law07_SegmentChunks (a0 : (List S44)) (a1 : Int) (a2 : S33) : Option (Bool) :=
  (law07_awake).bind fun y24748 => (if (!y24748) = true then (law07_SegmentChunks_j1 a0 a1 a2 true) else (law07_SegmentChunks_j1 a0 a1 a2 (decide (300 < (a0.length : Int)))))
end Go.Proofs.YteodeedejjcmgaaDoor.M
