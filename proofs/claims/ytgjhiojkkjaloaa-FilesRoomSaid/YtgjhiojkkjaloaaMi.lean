/- The calls come to the plain functions. -/
import Derived.Test.YtgjhiojkkjaloaaMf
import Derived.Test.YtgjhiojkkjaloaaDi
namespace Go.Proofs.Ytgjhiojkkjaloaa.M
open Go Go.RowKit Go.Proofs.Ytgjhiojkkjaloaa.E
set_option linter.unusedVariables false
set_option linter.unusedSimpArgs false

set_option maxHeartbeats 4000000 in
theorem F_law05_FilesRoom {r : World} {L : List HP} {w : World} (a0 : Int) (a1 : (List Int)) (A1 : Option Addr) (n1 : Nat) (c1 : Nat) {y : (Bool)} (hF : law05_FilesRoom a0 a1 = some y) (ha1 : RdL L (kI .u8) A1 n1 c1 a1) (hS : SH r (L) w) :
    Ret Try.prog 4 #[.int .u8 a0, .slice A1 n1 c1] w fun v w' => v = .bool y ∧ SH r (L) w' := by
  refine enter Try.func4 rfl Try.ntmps4 [(0, .int .u8 a0), (1, .slice A1 n1 c1)] rfl (by simp) ?_
  intro ac hA Qf hQ hQn
  unfold law05_FilesRoom at hF
  refine wp_seq_k fun K101 hK101 => ?_
  refine wp_reg ?_
  refine x_assign hA (fun ac hA => ?_) rfl rfl rfl rfl rfl
  refine wpList_nil ?_
  refine hK101 _ _ ?_
  refine wp_seq_k fun K102 hK102 => ?_
  refine wp_seq_k fun K103 hK103 => ?_
  refine wp_reg ?_
  obtain ⟨y104, h105, hF⟩ := bnd hF
  refine x_call en10 hA (F_law05_awake (L := L) h105 hS) (fun v ac w hR hA => ?_) rfl rfl rfl rfl rfl
  obtain ⟨rfl, hS⟩ := hR
  refine x_val hA (r_not rfl (hA.ev rfl)) (fun ac hA => ?_) rfl rfl rfl
  refine wpList_nil ?_
  refine hK103 _ _ ?_
  refine c_if hA rfl (fun hb106 => ?_) fun hb106 => ?_
  · replace hF := ift hb106 hF
    refine wp_seq_k fun K107 hK107 => ?_
    refine wp_reg ?_
    refine x_assign hA (fun ac hA => ?_) rfl rfl rfl rfl rfl
    refine wpList_nil ?_
    refine hK107 _ _ ?_
    refine wp_ret ?_
    cases hF
    refine hQ _ _ ?_
    refine lv Try.results4 hA rfl ?_
    exact ⟨rfl, hS⟩
  replace hF := iff' hb106 hF
  refine wp_skip ?_
  refine hK102 _ _ ?_
  refine wp_seq_k fun K108 hK108 => ?_
  refine wp_reg ?_
  refine x_move hA (fun ac hA => ?_) rfl rfl rfl rfl rfl
  obtain ⟨x109, h110, hF⟩ := ltt_ hF
  refine x_val (v := .int .i64 x109) hA (rv_i h110 (r_convI Try.underlying5 Try.underlying3 rfl (hA.ev rfl))) (fun ac hA => ?_) rfl rfl rfl
  obtain ⟨x111, h112, hF⟩ := ltt_ hF
  refine x_val (v := .int .i64 x111) hA (rv_i h112 (r_add rfl (hA.ev rfl) (hA.ev rfl))) (fun ac hA => ?_) rfl rfl rfl
  refine x_assign hA (fun ac hA => ?_) rfl rfl rfl rfl rfl
  refine wpList_nil ?_
  refine hK108 _ _ ?_
  refine wp_seq_k fun K113 hK113 => ?_
  refine wp_reg ?_
  refine x_move hA (fun ac hA => ?_) rfl rfl rfl rfl rfl
  obtain ⟨y114, h115, hF⟩ := bnd hF
  refine x_call en11 hA (F_files_New (L := L) x111 h115 hS) (fun v ac w hR hA => ?_) rfl rfl rfl rfl rfl
  obtain ⟨p116, rfl, hS⟩ := hR
  refine x_move hA (fun ac hA => ?_) rfl rfl rfl rfl rfl
  refine x_val hA (r_extract rfl (hA.ev rfl) rfl) (fun ac hA => ?_) rfl rfl rfl
  refine x_val hA (r_extract rfl (hA.ev rfl) rfl) (fun ac hA => ?_) rfl rfl rfl
  refine x_assign hA (fun ac hA => ?_) rfl rfl rfl rfl rfl
  refine x_assign hA (fun ac hA => ?_) rfl rfl rfl rfl rfl
  refine wpList_nil ?_
  refine hK113 _ _ ?_
  refine wp_seq_k fun K117 hK117 => ?_
  refine wp_reg ?_
  refine x_assign hA (fun ac hA => ?_) rfl rfl rfl rfl rfl
  refine wpList_nil ?_
  refine hK117 _ _ ?_
  refine wp_seq_k fun K118 hK118 => ?_
  refine wp_reg ?_
  refine x_bsl (d := kS) (e := 9) (ps := #[(0, str [97]), (1, str [98]), (2, str [99])]) (cells := [str [97], str [98], str [99]]) (xs := [[97], [98], [99]]) (fun w => by kernel_rfl) rfl ⟨[str [97]], _, rfl, rfl, ⟨[str [98]], _, rfl, rfl, ⟨[str [99]], _, rfl, rfl, rfl⟩⟩⟩ hA hS (fun g119 ac w hS hA => ?_) rfl rfl rfl rfl rfl rfl
  refine x_assign hA (fun ac hA => ?_) rfl rfl rfl rfl rfl
  refine wpList_nil ?_
  refine hK118 _ _ ?_
  refine wp_seq_k fun K120 hK120 => ?_
  refine wp_reg ?_
  refine x_alloc (cs := [.int .i64 0, .int .i64 0, .int .i64 0]) zr34 hA hS (fun g121 ac w hS hA => ?_) rfl rfl rfl rfl rfl
  replace hS := blk_own (d := (kI .i64)) (xs := ([0, 0, 0] : List Int)) ⟨[.int .i64 0], _, rfl, rfl, ⟨[.int .i64 0], _, rfl, rfl, ⟨[.int .i64 0], _, rfl, rfl, rfl⟩⟩⟩ rfl rfl hS
  refine wpList_nil ?_
  refine hK120 _ _ ?_
  refine wp_seq_k fun K122 hK122 => ?_
  refine wp_seq_k fun K906 hK906 => ?_
  refine wp_reg ?_
  refine x_assign hA (fun ac hA => ?_) rfl rfl rfl rfl rfl
  refine wpList_nil ?_
  refine hK906 _ _ ?_
  refine wp_block_k fun Kx907 hKx907 => ?_
  have hb1 : law05_FilesRoom_b1 = some y → ∀ (ac : Act) (w : World), FR 109 [] ac [] → SH r (L) w → Kx907 ac w := by
    intro hF ac w hA hS
    unfold law05_FilesRoom_b1 at hF
    refine hKx907 _ _ ?_
    refine hK122 _ _ ?_
    refine wp_seq_k fun K1318 hK1318 => ?_
    refine wp_reg ?_
    refine x_assign hA (fun ac hA => ?_) rfl rfl rfl rfl rfl
    refine wpList_nil ?_
    refine hK1318 _ _ ?_
    refine wp_ret ?_
    cases hF
    refine hQ _ _ ?_
    refine lv Try.results4 hA rfl ?_
    exact ⟨rfl, hS⟩
  obtain ⟨t1596, hl1596, hF⟩ := bnd hF
  have hR1596 := hF
  have hx1596_0 : (.inl ()) = t1596 → ∀ (ac : Act) (w : World), FR 109 [] ac [] → SH r (L) w → Kx907 ac w := by
    intro ht ac w hA hS
    subst ht
    replace hF : law05_FilesRoom_x1_0 = some y := hF
    unfold law05_FilesRoom_x1_0 at hF
    exact hb1 hF ac w (hA.sub _ rfl) hS
  replace hS := hS.pk 1
  replace hS := hS.pk 2
  refine wp_loop_fn hl1596 (fun s ac w => FR 109 [] ac [(1, .slice A1 n1 c1), (5, .int .i64 x111), (6, .pointer p116), (8, .int .i64 s.2.1), (9, .slice (some ⟨g119, 0, none⟩) 3 3), (10, .pointer (some ⟨g121, 0, none⟩)), (11, .int .i64 s.2.2.2)] ∧ SH r (optP (obj68) p116 s.1 :: own kS 9 (some ⟨g119, 0, none⟩) 3 3 [[97], [98], [99]] :: own (kI .i64) 34 (some ⟨g121, 0, none⟩) 3 3 s.2.2.1 :: L) w) ⟨hA.sub _ rfl, hS⟩ ?_
  intro N1596 s1596 o1596 hF N1596_ T1596_ ac w hLab
  obtain ⟨o1456, x1457, l1458, x1459⟩ := s1596
  replace hF : law05_FilesRoom_l1 a1 x111 o1456 x1457 l1458 x1459 = some o1596 := hF
  unfold law05_FilesRoom_l1 at hF
  try dsimp only at hLab
  obtain ⟨hA, hS⟩ := hLab
  refine wp_seq_k fun K1598 hK1598 => ?_
  refine wp_seq_k fun K1599 hK1599 => ?_
  have hj1 : ∀ (b1601 : Bool), law05_FilesRoom_j1 a1 x111 o1456 x1457 l1458 x1459 b1601 = some o1596 → ∀ (ac : Act) (w : World), FR 109 [] ac [(1, .slice A1 n1 c1), (5, .int .i64 x111), (6, .pointer p116), (8, .int .i64 x1457), (9, .slice (some ⟨g119, 0, none⟩) 3 3), (10, .pointer (some ⟨g121, 0, none⟩)), (11, .int .i64 x1459), (33, .bool b1601)] → SH r (optP (obj68) p116 o1456 :: own kS 9 (some ⟨g119, 0, none⟩) 3 3 [[97], [98], [99]] :: own (kI .i64) 34 (some ⟨g121, 0, none⟩) 3 3 l1458 :: L) w → K1599 ac w := by
    intro b1601 hF ac w hA hS
    unfold law05_FilesRoom_j1 at hF
    refine hK1599 _ _ ?_
    refine c_if hA rfl (fun hb1602 => ?_) fun hb1602 => ?_
    · replace hF := ift hb1602 hF
      refine wp_skip ?_
      refine hK1598 _ _ ?_
      refine wp_seq_k fun K1603 hK1603 => ?_
      refine wp_block_k fun Kx1604 hKx1604 => ?_
      refine wp_seq_k fun K1605 hK1605 => ?_
      refine wp_reg ?_
      refine x_move hA (fun ac hA => ?_) rfl rfl rfl rfl rfl
      refine x_move hA (fun ac hA => ?_) rfl rfl rfl rfl rfl
      obtain ⟨x1606, h1607, hF⟩ := bnd hF
      refine x_ia Try.underlying22 sz5 (hS.rdl 3 ha1 rfl) h1607 hA (fun ac hA => ?_) rfl rfl rfl rfl rfl rfl
      obtain ⟨cs, hV, hc1608⟩ := el (hS.rdl 3 ha1 rfl) h1607
      obtain rfl := hV
      refine x_ld Try.underlying5 (hc1608 0 _ rfl) hA (fun ac hA => ?_) rfl rfl rfl rfl rfl rfl
      obtain ⟨x1609, h1610, hF⟩ := ltt_ hF
      refine x_val (v := .int .i64 x1609) hA (rv_i h1610 (r_convI Try.underlying5 Try.underlying3 rfl (hA.ev rfl))) (fun ac hA => ?_) rfl rfl rfl
      obtain ⟨x1611, h1612, hF⟩ := ltt_ hF
      refine x_val (v := .int .i64 x1611) hA (rv_i h1612 (r_rem rfl (hA.ev rfl) (hA.ev rfl) (by decide))) (fun ac hA => ?_) rfl rfl rfl
      refine x_assign hA (fun ac hA => ?_) rfl rfl rfl rfl rfl
      refine wpList_nil ?_
      refine hK1605 _ _ ?_
      refine wp_seq_k fun K1613 hK1613 => ?_
      refine wp_reg ?_
      refine x_move hA (fun ac hA => ?_) rfl rfl rfl rfl rfl
      refine x_move hA (fun ac hA => ?_) rfl rfl rfl rfl rfl
      refine x_ia Try.underlying22 sz5 (hS.rdl 3 ha1 rfl) h1607 hA (fun ac hA => ?_) rfl rfl rfl rfl rfl rfl
      obtain ⟨cs, hV, hc1614⟩ := el (hS.rdl 3 ha1 rfl) h1607
      obtain rfl := hV
      refine x_ld Try.underlying5 (hc1614 0 _ rfl) hA (fun ac hA => ?_) rfl rfl rfl rfl rfl rfl
      refine x_val (v := .int .i64 x1609) hA (rv_i h1610 (r_convI Try.underlying5 Try.underlying3 rfl (hA.ev rfl))) (fun ac hA => ?_) rfl rfl rfl
      obtain ⟨x1615, h1616, hF⟩ := ltt_ hF
      refine x_val (v := .int .i64 x1615) hA (rv_i h1616 (r_quo rfl (hA.ev rfl) (hA.ev rfl) (by decide))) (fun ac hA => ?_) rfl rfl rfl
      obtain ⟨h1617, hF⟩ := chk_some hF
      refine x_mks (d := (kI .u8)) (bytes := 1) 0 inf5 rfl Try.underlying22 h1617 hA hS (fun g1618 ac w hS hA => ?_) rfl rfl rfl rfl rfl rfl
      refine x_assign hA (fun ac hA => ?_) rfl rfl rfl rfl rfl
      refine wpList_nil ?_
      refine hK1613 _ _ ?_
      refine wp_seq_k fun K1619 hK1619 => ?_
      refine wp_reg ?_
      refine x_move hA (fun ac hA => ?_) rfl rfl rfl rfl rfl
      refine x_move hA (fun ac hA => ?_) rfl rfl rfl rfl rfl
      refine x_move hA (fun ac hA => ?_) rfl rfl rfl rfl rfl
      obtain ⟨x1620, h1621, hF⟩ := bnd hF
      refine x_ia Try.underlying31 sz9 (hS.rd 2 rfl) h1621 hA (fun ac hA => ?_) rfl rfl rfl rfl rfl rfl
      obtain ⟨cs, hV, hc1622⟩ := el (hS.rd 2 rfl) h1621
      obtain rfl := hV
      refine x_ld Try.underlying9 (hc1622 0 _ rfl) hA (fun ac hA => ?_) rfl rfl rfl rfl rfl rfl
      refine x_move hA (fun ac hA => ?_) rfl rfl rfl rfl rfl
      replace hS := hS.pk 1
      obtain ⟨y1623, h1624, hF⟩ := bnd hF
      refine x_call en12 hA (F_files_Store_Append (L := own (kI .u8) 5 (some ⟨g1618, 0, none⟩) x1615.toNat x1615.toNat (List.replicate x1615.toNat (0 : Int)) :: own kS 9 (some ⟨g119, 0, none⟩) 3 3 [[97], [98], [99]] :: own (kI .i64) 34 (some ⟨g121, 0, none⟩) 3 3 l1458 :: L) o1456 x1620 (List.replicate x1615.toNat (0 : Int)) p116 (some ⟨g1618, 0, none⟩) x1615.toNat x1615.toNat h1624 (RdL.own 0 rfl (hS.dropN 1)) hS) (fun v ac w hR hA => ?_) rfl rfl rfl rfl rfl
      obtain ⟨rfl, hS⟩ := hR
      refine x_assign hA (fun ac hA => ?_) rfl rfl rfl rfl rfl
      refine wpList_nil ?_
      refine hK1619 _ _ ?_
      refine wp_seq_k fun K1625 hK1625 => ?_
      refine wp_seq_k fun K1626 hK1626 => ?_
      have hj2 : ∀ (b1631 : Bool), law05_FilesRoom_j2 x1457 l1458 x1459 x1611 x1615 y1623 b1631 = some o1596 → ∀ (ac : Act) (w : World), FR 109 [] ac [(1, .slice A1 n1 c1), (5, .int .i64 x111), (6, .pointer p116), (8, .int .i64 x1457), (9, .slice (some ⟨g119, 0, none⟩) 3 3), (10, .pointer (some ⟨g121, 0, none⟩)), (11, .int .i64 x1459), (12, .int .i64 x1611), (13, .slice (some ⟨g1618, 0, none⟩) x1615.toNat x1615.toNat), (14, .int .i64 y1623.1), (72, .bool b1631)] → SH r (optP (obj68) p116 y1623.2 :: own kS 9 (some ⟨g119, 0, none⟩) 3 3 [[97], [98], [99]] :: own (kI .i64) 34 (some ⟨g121, 0, none⟩) 3 3 l1458 :: own (kI .u8) 5 (some ⟨g1618, 0, none⟩) x1615.toNat x1615.toNat (List.replicate x1615.toNat (0 : Int)) :: L) w → K1626 ac w := by
        intro b1631 hF ac w hA hS
        unfold law05_FilesRoom_j2 at hF
        refine hK1626 _ _ ?_
        refine c_if hA rfl (fun hb1632 => ?_) fun hb1632 => ?_
        · replace hF := ift hb1632 hF
          refine wp_seq_k fun K1633 hK1633 => ?_
          refine wp_reg ?_
          refine x_assign hA (fun ac hA => ?_) rfl rfl rfl rfl rfl
          refine wpList_nil ?_
          refine hK1633 _ _ ?_
          refine wp_ret ?_
          replace hS := hS.drop 0
          replace hS := hS.drop 0
          replace hS := hS.drop 0
          replace hS := hS.drop 0
          cases hF
          have ht := T1596_ _ rfl
          subst ht
          replace hF := hR1596
          replace hF : some false = some y := hF
          cases hF
          refine hQ _ _ ?_
          refine lv Try.results4 hA rfl ?_
          exact ⟨rfl, hS⟩
        replace hF := iff' hb1632 hF
        refine wp_skip ?_
        refine hK1625 _ _ ?_
        refine wp_seq_k fun K1634 hK1634 => ?_
        have hj3 : ∀ (x1645 : Int) (l1646 : (List Int)), law05_FilesRoom_j3 x1459 x1611 y1623 x1645 l1646 = some o1596 → ∀ (ac : Act) (w : World), FR 109 [] ac [(1, .slice A1 n1 c1), (5, .int .i64 x111), (6, .pointer p116), (8, .int .i64 x1645), (9, .slice (some ⟨g119, 0, none⟩) 3 3), (10, .pointer (some ⟨g121, 0, none⟩)), (11, .int .i64 x1459), (12, .int .i64 x1611)] → SH r (optP (obj68) p116 y1623.2 :: own kS 9 (some ⟨g119, 0, none⟩) 3 3 [[97], [98], [99]] :: own (kI .i64) 34 (some ⟨g121, 0, none⟩) 3 3 l1646 :: L) w → K1634 ac w := by
          intro x1645 l1646 hF ac w hA hS
          unfold law05_FilesRoom_j3 at hF
          refine hK1634 _ _ ?_
          refine wp_seq_k fun K1647 hK1647 => ?_
          have hj4 : ∀ (o1675 : (Option S68)) (x1676 : Int) (l1677 : (List Int)), law05_FilesRoom_j4 x1459 o1675 x1676 l1677 = some o1596 → ∀ (ac : Act) (w : World), FR 109 [] ac [(1, .slice A1 n1 c1), (5, .int .i64 x111), (6, .pointer p116), (8, .int .i64 x1676), (9, .slice (some ⟨g119, 0, none⟩) 3 3), (10, .pointer (some ⟨g121, 0, none⟩)), (11, .int .i64 x1459)] → SH r (optP (obj68) p116 o1675 :: own kS 9 (some ⟨g119, 0, none⟩) 3 3 [[97], [98], [99]] :: own (kI .i64) 34 (some ⟨g121, 0, none⟩) 3 3 l1677 :: L) w → K1647 ac w := by
            intro o1675 x1676 l1677 hF ac w hA hS
            unfold law05_FilesRoom_j4 at hF
            refine hK1647 _ _ ?_
            refine wp_seq_k fun K1678 hK1678 => ?_
            refine wp_reg ?_
            refine x_move hA (fun ac hA => ?_) rfl rfl rfl rfl rfl
            obtain ⟨y1679, h1680, hF⟩ := bnd hF
            refine x_call en16 hA (F_files_Store_Used (L := own kS 9 (some ⟨g119, 0, none⟩) 3 3 [[97], [98], [99]] :: own (kI .i64) 34 (some ⟨g121, 0, none⟩) 3 3 l1677 :: L) o1675 p116 h1680 hS) (fun v ac w hR hA => ?_) rfl rfl rfl rfl rfl
            obtain ⟨rfl, hS⟩ := hR
            refine x_move hA (fun ac hA => ?_) rfl rfl rfl rfl rfl
            refine x_val hA (r_neI rfl (hA.ev rfl) (hA.ev rfl)) (fun ac hA => ?_) rfl rfl rfl
            refine wpList_nil ?_
            refine hK1678 _ _ ?_
            refine c_if hA rfl (fun hb1681 => ?_) fun hb1681 => ?_
            · replace hF := ift hb1681 hF
              refine wp_seq_k fun K1682 hK1682 => ?_
              refine wp_reg ?_
              refine x_assign hA (fun ac hA => ?_) rfl rfl rfl rfl rfl
              refine wpList_nil ?_
              refine hK1682 _ _ ?_
              refine wp_ret ?_
              replace hS := hS.drop 0
              replace hS := hS.drop 0
              replace hS := hS.drop 0
              cases hF
              have ht := T1596_ _ rfl
              subst ht
              replace hF := hR1596
              replace hF : some false = some y := hF
              cases hF
              refine hQ _ _ ?_
              refine lv Try.results4 hA rfl ?_
              exact ⟨rfl, hS⟩
            replace hF := iff' hb1681 hF
            refine wp_skip ?_
            refine hKx1604 _ _ ?_
            refine hK1603 _ _ ?_
            refine wp_reg ?_
            refine x_move hA (fun ac hA => ?_) rfl rfl rfl rfl rfl
            obtain ⟨x1683, h1684, hF⟩ := ltt_ hF
            refine x_val (v := .int .i64 x1683) hA (rv_i h1684 (r_add rfl (hA.ev rfl) (hA.ev rfl))) (fun ac hA => ?_) rfl rfl rfl
            refine x_assign hA (fun ac hA => ?_) rfl rfl rfl rfl rfl
            refine wpList_nil ?_
            cases hF
            exact ⟨_, N1596_ _ rfl, hA.sub _ rfl, hS⟩
          refine wp_seq_k fun K1685 hK1685 => ?_
          have hj5 : ∀ (o1694 : (Option S68)) (b1695 : Bool), law05_FilesRoom_j5 x1459 x1611 x1645 l1646 o1694 b1695 = some o1596 → ∀ (ac : Act) (w : World), FR 109 [] ac [(1, .slice A1 n1 c1), (5, .int .i64 x111), (6, .pointer p116), (8, .int .i64 x1645), (9, .slice (some ⟨g119, 0, none⟩) 3 3), (10, .pointer (some ⟨g121, 0, none⟩)), (11, .int .i64 x1459), (12, .int .i64 x1611), (97, .bool b1695)] → SH r (optP (obj68) p116 o1694 :: own kS 9 (some ⟨g119, 0, none⟩) 3 3 [[97], [98], [99]] :: own (kI .i64) 34 (some ⟨g121, 0, none⟩) 3 3 l1646 :: L) w → K1685 ac w := by
            intro o1694 b1695 hF ac w hA hS
            unfold law05_FilesRoom_j5 at hF
            refine hK1685 _ _ ?_
            refine c_if hA rfl (fun hb1696 => ?_) fun hb1696 => ?_
            · replace hF := ift hb1696 hF
              refine wp_seq_k fun K1697 hK1697 => ?_
              refine wp_reg ?_
              refine x_move hA (fun ac hA => ?_) rfl rfl rfl rfl rfl
              refine x_move hA (fun ac hA => ?_) rfl rfl rfl rfl rfl
              obtain ⟨x1698, h1699, hF⟩ := bnd hF
              refine x_iaA Try.underlying34 sz3 (hS.rd 2 rfl) h1699 hA (fun ac hA => ?_) rfl rfl rfl rfl rfl rfl
              obtain ⟨cs, hV, hc1700⟩ := el (hS.rd 2 rfl) h1699
              obtain rfl := hV
              refine x_ld Try.underlying3 (hc1700 0 _ rfl) hA (fun ac hA => ?_) rfl rfl rfl rfl rfl rfl
              obtain ⟨x1701, h1702, hF⟩ := ltt_ hF
              refine x_val (v := .int .i64 x1701) hA (rv_i h1702 (r_sub rfl (hA.ev rfl) (hA.ev rfl))) (fun ac hA => ?_) rfl rfl rfl
              refine x_assign hA (fun ac hA => ?_) rfl rfl rfl rfl rfl
              refine wpList_nil ?_
              refine hK1697 _ _ ?_
              refine wp_reg ?_
              refine x_move hA (fun ac hA => ?_) rfl rfl rfl rfl rfl
              refine x_iaA Try.underlying34 sz3 (hS.rd 2 rfl) h1699 hA (fun ac hA => ?_) rfl rfl rfl rfl rfl rfl
              refine x_sto (z' := 0) (off := 0) (vs := [.int .i64 0]) 2 sz3 hA hS rfl (at_some h1699).2.2 (fun c h => by cases h; rfl) (fun  ac w hS hA => ?_) rfl rfl rfl rfl rfl rfl rfl rfl
              refine wpList_nil ?_
              replace hS := hS.pk 2
              replace hS := hS.pk 2
              exact hj4 o1694 x1701 (l1646.set x1611.toNat 0) hF ac w (hA.sub _ rfl) hS
            replace hF := iff' hb1696 hF
            refine wp_skip ?_
            exact hj4 o1694 x1645 l1646 hF ac w (hA.sub _ rfl) hS
          refine wp_reg ?_
          refine x_move hA (fun ac hA => ?_) rfl rfl rfl rfl rfl
          obtain ⟨x1703, h1704, hF⟩ := ltt_ hF
          refine x_val (v := .int .i64 x1703) hA (rv_i h1704 (r_rem rfl (hA.ev rfl) (hA.ev rfl) (by decide))) (fun ac hA => ?_) rfl rfl rfl
          refine x_val hA (r_eqI rfl (hA.ev rfl) (hA.ev rfl)) (fun ac hA => ?_) rfl rfl rfl
          refine x_move hA (fun ac hA => ?_) rfl rfl rfl rfl rfl
          refine bcase (b := x1703 == 4) (fun hb1705 => ?_) fun hb1705 => ?_
          · replace hF := ift hb1705 hF
            refine x_on hb1705 hA ?_ rfl rfl rfl
            refine x_move hA (fun ac hA => ?_) rfl rfl rfl rfl rfl
            refine x_on hb1705 hA ?_ rfl rfl rfl
            refine x_move hA (fun ac hA => ?_) rfl rfl rfl rfl rfl
            refine x_on hb1705 hA ?_ rfl rfl rfl
            refine x_move hA (fun ac hA => ?_) rfl rfl rfl rfl rfl
            refine x_on hb1705 hA ?_ rfl rfl rfl
            obtain ⟨x1706, h1707, hF⟩ := bnd hF
            refine x_ia Try.underlying31 sz9 (hS.rd 1 rfl) h1707 hA (fun ac hA => ?_) rfl rfl rfl rfl rfl rfl
            refine x_on hb1705 hA ?_ rfl rfl rfl
            obtain ⟨cs, hV, hc1708⟩ := el (hS.rd 1 rfl) h1707
            obtain rfl := hV
            refine x_ld Try.underlying9 (hc1708 0 _ rfl) hA (fun ac hA => ?_) rfl rfl rfl rfl rfl rfl
            refine x_on hb1705 hA ?_ rfl rfl rfl
            obtain ⟨y1709, h1710, hF⟩ := bnd hF
            refine x_call en15 hA (F_files_Store_Delete (L := own kS 9 (some ⟨g119, 0, none⟩) 3 3 [[97], [98], [99]] :: own (kI .i64) 34 (some ⟨g121, 0, none⟩) 3 3 l1646 :: L) y1623.2 x1706 p116 h1710 hS) (fun v ac w hR hA => ?_) rfl rfl rfl rfl rfl
            obtain ⟨rfl, hS⟩ := hR
            refine x_on hb1705 hA ?_ rfl rfl rfl
            refine x_val hA (r_eqI rfl (hA.ev rfl) (hA.ev rfl)) (fun ac hA => ?_) rfl rfl rfl
            refine x_pickt hb1705 hA (fun ac hA => ?_) rfl rfl rfl rfl rfl rfl
            refine wpList_nil ?_
            exact hj5 y1709.2 (y1709.1 == 0) hF ac w (hA.sub _ rfl) hS
          replace hF := iff' hb1705 hF
          refine x_off hb1705 hA (fun ac hA => ?_) rfl rfl rfl rfl rfl
          refine x_off hb1705 hA (fun ac hA => ?_) rfl rfl rfl rfl rfl
          refine x_off hb1705 hA (fun ac hA => ?_) rfl rfl rfl rfl rfl
          refine x_off hb1705 hA (fun ac hA => ?_) rfl rfl rfl rfl rfl
          refine x_off hb1705 hA (fun ac hA => ?_) rfl rfl rfl rfl rfl
          refine x_off hb1705 hA (fun ac hA => ?_) rfl rfl rfl rfl rfl
          refine x_off hb1705 hA (fun ac hA => ?_) rfl rfl rfl rfl rfl
          refine x_pickf hb1705 hA (fun ac hA => ?_) rfl rfl rfl rfl rfl rfl
          refine wpList_nil ?_
          exact hj5 y1623.2 false hF ac w (hA.sub _ rfl) hS
        refine wp_seq_k fun K1711 hK1711 => ?_
        refine wp_reg ?_
        refine x_move hA (fun ac hA => ?_) rfl rfl rfl rfl rfl
        refine x_val hA (r_eqI rfl (hA.ev rfl) (hA.ev rfl)) (fun ac hA => ?_) rfl rfl rfl
        refine wpList_nil ?_
        refine hK1711 _ _ ?_
        refine c_if hA rfl (fun hb1712 => ?_) fun hb1712 => ?_
        · replace hF := ift hb1712 hF
          refine wp_seq_k fun K1713 hK1713 => ?_
          refine wp_reg ?_
          refine x_move hA (fun ac hA => ?_) rfl rfl rfl rfl rfl
          refine x_move hA (fun ac hA => ?_) rfl rfl rfl rfl rfl
          refine x_len Try.underlying22 (hS.rd 3 rfl).2.1 hA (fun ac hA => ?_) rfl rfl rfl rfl rfl
          obtain ⟨x1714, h1715, hF⟩ := ltt_ hF
          refine x_val (v := .int .i64 x1714) hA (rv_i h1715 (r_add rfl (hA.ev rfl) (hA.ev rfl))) (fun ac hA => ?_) rfl rfl rfl
          refine x_assign hA (fun ac hA => ?_) rfl rfl rfl rfl rfl
          refine wpList_nil ?_
          refine hK1713 _ _ ?_
          refine wp_reg ?_
          refine x_move hA (fun ac hA => ?_) rfl rfl rfl rfl rfl
          obtain ⟨x1716, h1717, hF⟩ := bnd hF
          refine x_iaA Try.underlying34 sz3 (hS.rd 2 rfl) h1717 hA (fun ac hA => ?_) rfl rfl rfl rfl rfl rfl
          obtain ⟨cs, hV, hc1718⟩ := el (hS.rd 2 rfl) h1717
          obtain rfl := hV
          refine x_ld Try.underlying3 (hc1718 0 _ rfl) hA (fun ac hA => ?_) rfl rfl rfl rfl rfl rfl
          refine x_move hA (fun ac hA => ?_) rfl rfl rfl rfl rfl
          refine x_len Try.underlying22 (hS.rd 3 rfl).2.1 hA (fun ac hA => ?_) rfl rfl rfl rfl rfl
          obtain ⟨x1719, h1720, hF⟩ := ltt_ hF
          refine x_val (v := .int .i64 x1719) hA (rv_i h1720 (r_add rfl (hA.ev rfl) (hA.ev rfl))) (fun ac hA => ?_) rfl rfl rfl
          refine x_iaA Try.underlying34 sz3 (hS.rd 2 rfl) h1717 hA (fun ac hA => ?_) rfl rfl rfl rfl rfl rfl
          refine x_sto (z' := x1719) (off := 0) (vs := [.int .i64 x1719]) 2 sz3 hA hS rfl (at_some h1717).2.2 (fun c h => by cases h; rfl) (fun  ac w hS hA => ?_) rfl rfl rfl rfl rfl rfl rfl rfl
          refine wpList_nil ?_
          replace hS := hS.drop 3
          replace hS := hS.pk 2
          replace hS := hS.pk 2
          exact hj3 x1714 (l1458.set x1611.toNat x1719) hF ac w (hA.sub _ rfl) hS
        replace hF := iff' hb1712 hF
        refine wp_skip ?_
        replace hS := hS.drop 3
        exact hj3 x1457 l1458 hF ac w (hA.sub _ rfl) hS
      refine wp_reg ?_
      refine x_move hA (fun ac hA => ?_) rfl rfl rfl rfl rfl
      refine x_val hA (r_eqI rfl (hA.ev rfl) (hA.ev rfl)) (fun ac hA => ?_) rfl rfl rfl
      refine x_move hA (fun ac hA => ?_) rfl rfl rfl rfl rfl
      refine x_move hA (fun ac hA => ?_) rfl rfl rfl rfl rfl
      refine x_len Try.underlying22 (hS.rd 1 rfl).2.1 hA (fun ac hA => ?_) rfl rfl rfl rfl rfl
      obtain ⟨x1721, h1722, hF⟩ := ltt_ hF
      refine x_val (v := .int .i64 x1721) hA (rv_i h1722 (r_add rfl (hA.ev rfl) (hA.ev rfl))) (fun ac hA => ?_) rfl rfl rfl
      refine x_move hA (fun ac hA => ?_) rfl rfl rfl rfl rfl
      refine x_val hA (r_leI rfl (hA.ev rfl) (hA.ev rfl)) (fun ac hA => ?_) rfl rfl rfl
      refine x_val hA (r_neB Try.underlying4 rfl (hA.ev rfl) (hA.ev rfl)) (fun ac hA => ?_) rfl rfl rfl
      refine x_move hA (fun ac hA => ?_) rfl rfl rfl rfl rfl
      refine bcase (b := !((y1623.1 == 0) == (decide (x1721 ≤ x111)))) (fun hb1723 => ?_) fun hb1723 => ?_
      · replace hF := ift hb1723 hF
        refine x_off hb1723 hA (fun ac hA => ?_) rfl rfl rfl rfl rfl
        refine x_off hb1723 hA (fun ac hA => ?_) rfl rfl rfl rfl rfl
        refine x_off hb1723 hA (fun ac hA => ?_) rfl rfl rfl rfl rfl
        refine x_offU hA (fun ac hA => ?_) rfl rfl rfl rfl rfl
        refine x_offU hA (fun ac hA => ?_) rfl rfl rfl rfl rfl
        refine x_off hb1723 hA (fun ac hA => ?_) rfl rfl rfl rfl rfl
        refine x_pickt hb1723 hA (fun ac hA => ?_) rfl rfl rfl rfl rfl rfl
        refine wpList_nil ?_
        replace hS := hS.pk 1
        replace hS := hS.pk 3
        replace hS := hS.pk 3
        replace hS := hS.pk 3
        exact hj2 true hF ac w (hA.sub _ rfl) hS
      replace hF := iff' hb1723 hF
      refine x_on hb1723 hA ?_ rfl rfl rfl
      refine x_move hA (fun ac hA => ?_) rfl rfl rfl rfl rfl
      refine x_on hb1723 hA ?_ rfl rfl rfl
      refine x_val hA (r_neI rfl (hA.ev rfl) (hA.ev rfl)) (fun ac hA => ?_) rfl rfl rfl
      refine x_on hb1723 hA ?_ rfl rfl rfl
      refine x_move hA (fun ac hA => ?_) rfl rfl rfl rfl rfl
      refine bcase (b := y1623.1 != 0) (fun hb1724 => ?_) fun hb1724 => ?_
      · replace hF := ift hb1724 hF
        refine x_on hb1724 hA ?_ rfl rfl rfl
        refine x_move hA (fun ac hA => ?_) rfl rfl rfl rfl rfl
        refine x_on hb1724 hA ?_ rfl rfl rfl
        refine x_val hA (r_neI rfl (hA.ev rfl) (hA.ev rfl)) (fun ac hA => ?_) rfl rfl rfl
        refine x_on hb1723 hA ?_ rfl rfl rfl
        refine x_pickt hb1724 hA (fun ac hA => ?_) rfl rfl rfl rfl rfl rfl
        refine x_pickf hb1723 hA (fun ac hA => ?_) rfl rfl rfl rfl rfl rfl
        refine wpList_nil ?_
        replace hS := hS.pk 1
        replace hS := hS.pk 3
        replace hS := hS.pk 3
        replace hS := hS.pk 3
        exact hj2 (y1623.1 != 10) hF ac w (hA.sub _ rfl) hS
      replace hF := iff' hb1724 hF
      refine x_off hb1724 hA (fun ac hA => ?_) rfl rfl rfl rfl rfl
      refine x_off hb1724 hA (fun ac hA => ?_) rfl rfl rfl rfl rfl
      refine x_on hb1723 hA ?_ rfl rfl rfl
      refine x_pickf hb1724 hA (fun ac hA => ?_) rfl rfl rfl rfl rfl rfl
      refine x_pickf hb1723 hA (fun ac hA => ?_) rfl rfl rfl rfl rfl rfl
      refine wpList_nil ?_
      replace hS := hS.pk 1
      replace hS := hS.pk 3
      replace hS := hS.pk 3
      replace hS := hS.pk 3
      exact hj2 false hF ac w (hA.sub _ rfl) hS
    replace hF := iff' hb1602 hF
    refine wp_exit ?_
    replace hS := hS.drop 0
    replace hS := hS.drop 0
    replace hS := hS.drop 0
    cases hF
    exact hx1596_0 (T1596_ _ rfl) ac w (hA.sub _ rfl) hS
  refine wp_reg ?_
  refine x_move hA (fun ac hA => ?_) rfl rfl rfl rfl rfl
  refine x_move hA (fun ac hA => ?_) rfl rfl rfl rfl rfl
  refine x_len Try.underlying22 (hS.rdl 3 ha1 rfl).2.1 hA (fun ac hA => ?_) rfl rfl rfl rfl rfl
  refine x_val hA (r_ltI rfl (hA.ev rfl) (hA.ev rfl)) (fun ac hA => ?_) rfl rfl rfl
  refine x_move hA (fun ac hA => ?_) rfl rfl rfl rfl rfl
  refine bcase (b := decide (x1459 < (a1.length : Int))) (fun hb1725 => ?_) fun hb1725 => ?_
  · replace hF := ift hb1725 hF
    refine x_on hb1725 hA ?_ rfl rfl rfl
    refine x_move hA (fun ac hA => ?_) rfl rfl rfl rfl rfl
    refine x_on hb1725 hA ?_ rfl rfl rfl
    refine x_val hA (r_ltI rfl (hA.ev rfl) (hA.ev rfl)) (fun ac hA => ?_) rfl rfl rfl
    refine x_pickt hb1725 hA (fun ac hA => ?_) rfl rfl rfl rfl rfl rfl
    refine wpList_nil ?_
    exact hj1 (decide (x1459 < 60)) hF ac w (hA.sub _ rfl) hS
  replace hF := iff' hb1725 hF
  refine x_off hb1725 hA (fun ac hA => ?_) rfl rfl rfl rfl rfl
  refine x_off hb1725 hA (fun ac hA => ?_) rfl rfl rfl rfl rfl
  refine x_pickf hb1725 hA (fun ac hA => ?_) rfl rfl rfl rfl rfl rfl
  refine wpList_nil ?_
  exact hj1 false hF ac w (hA.sub _ rfl) hS
end Go.Proofs.Ytgjhiojkkjaloaa.M
