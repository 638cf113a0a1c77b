/- Texts of the claim, joined: what it uses of Mel, DlEventFew, MlEventFew, LEventFew, Qa, Qb, Qc, Qd, Qe. -/
import Derived.Test.YthokgnonmcgkcaaDoorZg
import Derived.Test.YthokgnonmcgkcaaDoorCards
import Derived.Test.YthokgnonmcgkcaaDoorTie
import Derived.SevenTiedAt
import Derived.LaidMore
import Derived.OpenShut
import Derived.Stop.Joined
import Derived.ProofKit
import Derived.IntWalk
namespace Go.Proofs.YthokgnonmcgkcaaDoor.M
open Go Go.RowKit Go.Proofs.YthokgnonmcgkcaaDoor.E
set_option linter.unusedVariables false
set_option linter.unusedSimpArgs false
set_option maxRecDepth 100000 in
set_option maxHeartbeats 4000000 in
theorem F_event_Lay {r : World} {L : List HP} {w : World} {Z : Nat → Prop} {wz : World} (a0 : (List Int)) (a1 : (List S39)) (A0 : Option Addr) (n0 : Nat) (c0 : Nat) (A1 : Option Addr) (n1 : Nat) (c1 : Nat) {y : ((List Int))} (hF : event_Lay a0 a1 = some y) (ha1 : Imm Z wz k39 A1 n1 c1 a1) (hG0 : Imm Z wz (kI .u32) (some ⟨0, 0, none⟩) 16 16 gl_page_table) (hS : SH r (own (kI .u8) 5 A0 n0 c0 a0 :: zone Z wz :: L) w) :
    Ret Tryd.prog 10 #[.slice A0 n0 c0, .slice A1 n1 c1] w fun v w' => ∃ (Z' : Nat → Prop) (wz' : World) (B0 : Option Addr) (m0 : Nat) (d0 : Nat), v = .slice B0 m0 d0 ∧ Sub Z wz Z' wz' ∧ SH r (own (kI .u8) 5 B0 m0 d0 y :: zone Z' wz' :: L) w' := by
  refine enter Tryd.func10 rfl Tryd.ntmps10 [(0, .slice A0 n0 c0), (1, .slice A1 n1 c1)] rfl (by simp) ?_
  intro ac hA Qf hQ hQn
  unfold event_Lay at hF
  refine wp_seq_k fun K101 hK101 => ?_
  refine wp_reg ?_
  refine x_assign hA (fun ac hA => ?_) rfl rfl rfl rfl rfl
  refine wpList_nil ?_
  refine hK101 _ _ ?_
  refine wp_seq_k fun K102 hK102 => ?_
  refine wp_reg ?_
  refine x_assign hA (fun ac hA => ?_) rfl rfl rfl rfl rfl
  refine x_assign hA (fun ac hA => ?_) rfl rfl rfl rfl rfl
  refine x_assign hA (fun ac hA => ?_) rfl rfl rfl rfl rfl
  refine wpList_nil ?_
  refine hK102 _ _ ?_
  refine wp_seq_k fun K103 hK103 => ?_
  refine wp_reg ?_
  refine x_assign hA (fun ac hA => ?_) rfl rfl rfl rfl rfl
  refine wpList_nil ?_
  refine hK103 _ _ ?_
  refine wp_seq_k fun K104 hK104 => ?_
  refine wp_reg ?_
  refine x_assign hA (fun ac hA => ?_) rfl rfl rfl rfl rfl
  refine wpList_nil ?_
  refine hK104 _ _ ?_
  refine wp_seq_k fun K105 hK105 => ?_
  refine wp_seq_k fun K10997 hK10997 => ?_
  refine wp_reg ?_
  refine x_move hA (fun ac hA => ?_) rfl rfl rfl rfl rfl
  refine x_len Tryd.underlying24 (hS.imm 1 ha1 rfl).2.1 hA (fun ac hA => ?_) rfl rfl rfl rfl rfl
  refine x_move hA (fun ac hA => ?_) rfl rfl rfl rfl rfl
  refine wpList_nil ?_
  refine hK10997 _ _ ?_
  refine wp_block_k fun Kx10998 hKx10998 => ?_
  have hb1 : ∀ (l16433 : (List Int)) (l16437 : (List Int)) (l16441 : (List Int)) (l16445 : (List (List UInt8))) (l16449 : (List Nat)), event_Lay_b1 a0 l16433 l16437 l16441 l16445 l16449 = some y → ∀ (A16434 : Option Addr) (n16435 : Nat) (c16436 : Nat) (A16438 : Option Addr) (n16439 : Nat) (c16440 : Nat) (A16442 : Option Addr) (n16443 : Nat) (c16444 : Nat) (A16446 : Option Addr) (n16447 : Nat) (c16448 : Nat) (A16450 : Option Addr) (n16451 : Nat) (c16452 : Nat) (ac : Act) (w : World), FR 72 [] ac [(0, .slice A0 n0 c0), (5, .slice A16434 n16435 c16436), (6, .slice A16438 n16439 c16440), (7, .slice A16442 n16443 c16444), (8, .slice A16446 n16447 c16448), (9, .slice A16450 n16451 c16452)] → SH r (own (kI .u8) 5 A0 n0 c0 a0 :: own (kI .i64) 2 A16434 n16435 c16436 l16433 :: own (kI .i64) 2 A16438 n16439 c16440 l16437 :: own (kI .i64) 2 A16442 n16443 c16444 l16441 :: own kS 9 A16446 n16447 c16448 l16445 :: own kF 37 A16450 n16451 c16452 l16449 :: zone Z wz :: L) w → Kx10998 ac w := by
    intro l16433 l16437 l16441 l16445 l16449 hF A16434 n16435 c16436 A16438 n16439 c16440 A16442 n16443 c16444 A16446 n16447 c16448 A16450 n16451 c16452 ac w hA hS
    unfold event_Lay_b1 at hF
    refine hKx10998 _ _ ?_
    refine hK105 _ _ ?_
    refine wp_seq_k fun K16453 hK16453 => ?_
    refine wp_reg ?_
    refine x_assign hA (fun ac hA => ?_) rfl rfl rfl rfl rfl
    refine wpList_nil ?_
    refine hK16453 _ _ ?_
    refine wp_seq_k fun K16454 hK16454 => ?_
    refine wp_seq_k fun K16694 hK16694 => ?_
    refine wp_reg ?_
    refine x_move hA (fun ac hA => ?_) rfl rfl rfl rfl rfl
    obtain ⟨y16695, h16696, hF⟩ := bnd hF
    refine x_call en28 hA (F_column_Ints (L := own (kI .u8) 5 A0 n0 c0 a0 :: own (kI .i64) 2 A16434 n16435 c16436 l16433 :: own (kI .i64) 2 A16438 n16439 c16440 l16437 :: own (kI .i64) 2 A16442 n16443 c16444 l16441 :: own kS 9 A16446 n16447 c16448 l16445 :: own kF 37 A16450 n16451 c16452 l16449 :: zone Z wz :: L) l16433 A16434 n16435 c16436 h16696 (RdL.own 1 rfl (hS.dropN 0)) hS) (fun v ac w hR hA => ?_) rfl rfl rfl rfl rfl
    obtain ⟨B16697, m16698, d16699, rfl, hS⟩ := hR
    refine x_move hA (fun ac hA => ?_) rfl rfl rfl rfl rfl
    obtain ⟨y16700, h16701, hF⟩ := bnd hF
    refine x_call en28 hA (F_column_Ints (L := own (kI .u8) 5 B16697 m16698 d16699 y16695 :: own (kI .u8) 5 A0 n0 c0 a0 :: own (kI .i64) 2 A16434 n16435 c16436 l16433 :: own (kI .i64) 2 A16438 n16439 c16440 l16437 :: own (kI .i64) 2 A16442 n16443 c16444 l16441 :: own kS 9 A16446 n16447 c16448 l16445 :: own kF 37 A16450 n16451 c16452 l16449 :: zone Z wz :: L) l16437 A16438 n16439 c16440 h16701 (RdL.own 3 rfl (hS.dropN 0)) hS) (fun v ac w hR hA => ?_) rfl rfl rfl rfl rfl
    obtain ⟨B16702, m16703, d16704, rfl, hS⟩ := hR
    refine x_move hA (fun ac hA => ?_) rfl rfl rfl rfl rfl
    obtain ⟨y16705, h16706, hF⟩ := bnd hF
    refine x_call en28 hA (F_column_Ints (L := own (kI .u8) 5 B16702 m16703 d16704 y16700 :: own (kI .u8) 5 B16697 m16698 d16699 y16695 :: own (kI .u8) 5 A0 n0 c0 a0 :: own (kI .i64) 2 A16434 n16435 c16436 l16433 :: own (kI .i64) 2 A16438 n16439 c16440 l16437 :: own (kI .i64) 2 A16442 n16443 c16444 l16441 :: own kS 9 A16446 n16447 c16448 l16445 :: own kF 37 A16450 n16451 c16452 l16449 :: zone Z wz :: L) l16441 A16442 n16443 c16444 h16706 (RdL.own 5 rfl (hS.dropN 0)) hS) (fun v ac w hR hA => ?_) rfl rfl rfl rfl rfl
    obtain ⟨B16707, m16708, d16709, rfl, hS⟩ := hR
    refine x_move hA (fun ac hA => ?_) rfl rfl rfl rfl rfl
    obtain ⟨y16710, h16711, hF⟩ := bnd hF
    refine x_call en29 hA (F_column_Texts (L := own (kI .u8) 5 B16707 m16708 d16709 y16705 :: own (kI .u8) 5 B16702 m16703 d16704 y16700 :: own (kI .u8) 5 B16697 m16698 d16699 y16695 :: own (kI .u8) 5 A0 n0 c0 a0 :: own (kI .i64) 2 A16434 n16435 c16436 l16433 :: own (kI .i64) 2 A16438 n16439 c16440 l16437 :: own (kI .i64) 2 A16442 n16443 c16444 l16441 :: own kS 9 A16446 n16447 c16448 l16445 :: own kF 37 A16450 n16451 c16452 l16449 :: zone Z wz :: L) l16445 A16446 n16447 c16448 h16711 (RdL.own 7 rfl (hS.dropN 0)) hS) (fun v ac w hR hA => ?_) rfl rfl rfl rfl rfl
    obtain ⟨B16712, m16713, d16714, rfl, hS⟩ := hR
    refine x_move hA (fun ac hA => ?_) rfl rfl rfl rfl rfl
    obtain ⟨y16715, h16716, hF⟩ := bnd hF
    refine x_call en30 hA (F_column_Reals (L := own (kI .u8) 5 B16712 m16713 d16714 y16710 :: own (kI .u8) 5 B16707 m16708 d16709 y16705 :: own (kI .u8) 5 B16702 m16703 d16704 y16700 :: own (kI .u8) 5 B16697 m16698 d16699 y16695 :: own (kI .u8) 5 A0 n0 c0 a0 :: own (kI .i64) 2 A16434 n16435 c16436 l16433 :: own (kI .i64) 2 A16438 n16439 c16440 l16437 :: own (kI .i64) 2 A16442 n16443 c16444 l16441 :: own kS 9 A16446 n16447 c16448 l16445 :: own kF 37 A16450 n16451 c16452 l16449 :: zone Z wz :: L) l16449 A16450 n16451 c16452 h16716 (RdL.own 9 rfl (hS.dropN 0)) hS) (fun v ac w hR hA => ?_) rfl rfl rfl rfl rfl
    obtain ⟨B16717, m16718, d16719, rfl, hS⟩ := hR
    replace hS := hS.pk 11
    replace hS := hS.pk 5
    obtain ⟨Z16720, wz16721, hS, h16722, sb16723⟩ := SH.freeze (n := m16698) (c := d16699) (A := B16697) hS
    replace hS := hS.pk 0
    replace hS := hS.pk 4
    obtain ⟨Z16724, wz16725, hS, h16726, sb16727⟩ := SH.freeze (n := m16703) (c := d16704) (A := B16702) hS
    have h16728 := Imm.sub h16722 sb16727
    replace hS := hS.pk 0
    replace hS := hS.pk 3
    obtain ⟨Z16729, wz16730, hS, h16731, sb16732⟩ := SH.freeze (n := m16708) (c := d16709) (A := B16707) hS
    have h16733 := Imm.sub h16728 sb16732
    have h16734 := Imm.sub h16726 sb16732
    replace hS := hS.pk 0
    replace hS := hS.pk 2
    obtain ⟨Z16735, wz16736, hS, h16737, sb16738⟩ := SH.freeze (n := m16713) (c := d16714) (A := B16712) hS
    have h16739 := Imm.sub h16733 sb16738
    have h16740 := Imm.sub h16734 sb16738
    have h16741 := Imm.sub h16731 sb16738
    replace hS := hS.pk 0
    replace hS := hS.pk 1
    obtain ⟨Z16742, wz16743, hS, h16744, sb16745⟩ := SH.freeze (n := m16718) (c := d16719) (A := B16717) hS
    have h16746 := Imm.sub h16739 sb16745
    have h16747 := Imm.sub h16740 sb16745
    have h16748 := Imm.sub h16741 sb16745
    have h16749 := Imm.sub h16737 sb16745
    refine x_bsl (d := (kM Z16742 wz16743 (kI .u8))) (e := 22) (ps := #[(0, .slice B16697 m16698 d16699), (1, .slice B16702 m16703 d16704), (2, .slice B16707 m16708 d16709), (3, .slice B16712 m16713 d16714), (4, .slice B16717 m16718 d16719)]) (cells := [.slice B16697 m16698 d16699, .slice B16702 m16703 d16704, .slice B16707 m16708 d16709, .slice B16712 m16713 d16714, .slice B16717 m16718 d16719]) (xs := [y16695, y16700, y16705, y16710, y16715]) (fun w => by kernel_rfl) rfl ⟨[.slice B16697 m16698 d16699], _, rfl, ⟨_, _, _, rfl, h16746⟩, ⟨[.slice B16702 m16703 d16704], _, rfl, ⟨_, _, _, rfl, h16747⟩, ⟨[.slice B16707 m16708 d16709], _, rfl, ⟨_, _, _, rfl, h16748⟩, ⟨[.slice B16712 m16713 d16714], _, rfl, ⟨_, _, _, rfl, h16749⟩, ⟨[.slice B16717 m16718 d16719], _, rfl, ⟨_, _, _, rfl, h16744⟩, rfl⟩⟩⟩⟩⟩ hA hS (fun g16750 ac w hS hA => ?_) rfl rfl rfl rfl rfl rfl
    refine x_len Tryd.underlying74 (hS.rd 0 rfl).2.1 hA (fun ac hA => ?_) rfl rfl rfl rfl rfl
    refine x_move hA (fun ac hA => ?_) rfl rfl rfl rfl rfl
    refine wpList_nil ?_
    refine hK16694 _ _ ?_
    refine wp_block_k fun Kx16751 hKx16751 => ?_
    have hb2 : ∀ (l16840 : (List Int)), event_Lay_b2 a0 l16840 = some y → ∀ (A16841 : Option Addr) (n16842 : Nat) (c16843 : Nat) (ac : Act) (w : World), FR 72 [] ac [(0, .slice A0 n0 c0), (12, .slice A16841 n16842 c16843)] → SH r (own (kI .u8) 5 A0 n0 c0 a0 :: own (kI .u8) 5 A16841 n16842 c16843 l16840 :: zone Z16742 wz16743 :: L) w → Kx16751 ac w := by
      intro l16840 hF A16841 n16842 c16843 ac w hA hS
      unfold event_Lay_b2 at hF
      refine hKx16751 _ _ ?_
      refine hK16454 _ _ ?_
      refine wp_seq_k fun K16844 hK16844 => ?_
      refine wp_reg ?_
      refine x_move hA (fun ac hA => ?_) rfl rfl rfl rfl rfl
      refine x_move hA (fun ac hA => ?_) rfl rfl rfl rfl rfl
      obtain ⟨y16845, h16846, hF⟩ := bnd hF
      refine x_call en32 hA (F_page_Lay (L := own (kI .u8) 5 A16841 n16842 c16843 l16840 :: zone Z16742 wz16743 :: L) a0 101 l16840 A0 n0 c0 A16841 n16842 c16843 h16846 1 rfl (RdL.own 0 rfl (hS.dropN 1)) (Imm.sub hG0 (Sub.trans (Sub.trans (Sub.trans (Sub.trans sb16723 sb16727) sb16732) sb16738) sb16745)) hS) (fun v ac w hR hA => ?_) rfl rfl rfl rfl rfl
      obtain ⟨B16847, m16848, d16849, rfl, hS⟩ := hR
      refine x_assign hA (fun ac hA => ?_) rfl rfl rfl rfl rfl
      refine wpList_nil ?_
      refine hK16844 _ _ ?_
      refine wp_ret ?_
      replace hS := hS.drop 1
      replace hS := hS.pk 1
      replace hS := hS.pk 1
      cases hF
      refine hQ _ _ ?_
      refine lv Tryd.results10 hA rfl ?_
      exact ⟨Z16742, wz16743, B16847, m16848, d16849, rfl, (Sub.trans (Sub.trans (Sub.trans (Sub.trans sb16723 sb16727) sb16732) sb16738) sb16745), hS⟩
    obtain ⟨t16916, hl16916, hF⟩ := bnd hF
    have hx16916_2 : ∀ (l16913 : (List Int)), (l16913) = t16916 → ∀ (A16914 : Option Addr) (n16915 : Nat) (c16916 : Nat) (ac : Act) (w : World), FR 72 [] ac [(0, .slice A0 n0 c0), (12, .slice A16914 n16915 c16916)] → SH r (own (kI .u8) 5 A0 n0 c0 a0 :: own (kI .u8) 5 A16914 n16915 c16916 l16913 :: zone Z16742 wz16743 :: L) w → Kx16751 ac w := by
      intro l16913 ht A16914 n16915 c16916 ac w hA hS
      subst ht
      replace hF : event_Lay_x1_2 a0 l16913 = some y := hF
      unfold event_Lay_x1_2 at hF
      exact hb2 l16913 hF A16914 n16915 c16916 ac w (hA.sub _ rfl) hS
    replace hS := SH.nil_own (d := (kI .u8)) (e := 5) hS
    replace hS := hS.drop 4
    replace hS := hS.drop 4
    replace hS := hS.drop 4
    replace hS := hS.drop 4
    replace hS := hS.drop 4
    replace hS := hS.pk 2
    replace hS := hS.pk 2
    replace hS := hS.pk 2
    replace hS := hS.pk 3
    refine wp_loop_fn hl16916 (fun s ac w => ∃ (A16884 : Option Addr) (n16885 : Nat) (c16886 : Nat), FR 72 [] ac [(0, .slice A0 n0 c0), (12, .slice A16884 n16885 c16886), (58, .slice (some ⟨g16750, 0, none⟩) 5 5), (59, .int .i64 ([y16695, y16700, y16705, y16710, y16715].length : Int)), (60, .int .i64 s.2)] ∧ SH r (own (kI .u8) 5 A0 n0 c0 a0 :: own (kI .u8) 5 A16884 n16885 c16886 s.1 :: own (kM Z16742 wz16743 (kI .u8)) 22 (some ⟨g16750, 0, none⟩) 5 5 [y16695, y16700, y16705, y16710, y16715] :: zone Z16742 wz16743 :: L) w) ⟨none, 0, 0, hA.sub _ rfl, hS⟩ ?_
    intro N16916 s16916 o16916 hF N16916_ T16916_ ac w hLab
    obtain ⟨l16883, x16887⟩ := s16916
    replace hF : event_Lay_l1 y16695 y16700 y16705 y16710 y16715 l16883 x16887 = some o16916 := hF
    unfold event_Lay_l1 at hF
    try dsimp only at hLab
    obtain ⟨A16884, n16885, c16886, hA, hS⟩ := hLab
    refine wp_seq_k fun K16918 hK16918 => ?_
    refine wp_reg ?_
    refine x_val hA (r_ltI rfl (hA.ev rfl) (hA.ev rfl)) (fun ac hA => ?_) rfl rfl rfl
    refine wpList_nil ?_
    refine hK16918 _ _ ?_
    refine wp_seq_k fun K16919 hK16919 => ?_
    refine c_if hA rfl (fun hb16920 => ?_) fun hb16920 => ?_
    · replace hF := ift hb16920 hF
      refine wp_skip ?_
      refine hK16919 _ _ ?_
      refine wp_seq_k fun K16921 hK16921 => ?_
      refine wp_block_k fun Kx16922 hKx16922 => ?_
      refine wp_seq_k fun K16923 hK16923 => ?_
      refine wp_reg ?_
      obtain ⟨x16924, h16925, hF⟩ := bnd hF
      refine x_ia Tryd.underlying74 sz22 (hS.rd 2 rfl) h16925 hA (fun ac hA => ?_) rfl rfl rfl rfl rfl rfl
      obtain ⟨cs, hV, hc16926⟩ := el (hS.rd 2 rfl) h16925
      obtain ⟨A16927, n16928, c16929, rfl, h16930⟩ := hV
      refine x_ld Tryd.underlying22 (hc16926 0 _ rfl) hA (fun ac hA => ?_) rfl rfl rfl rfl rfl rfl
      refine x_assign hA (fun ac hA => ?_) rfl rfl rfl rfl rfl
      refine wpList_nil ?_
      refine hK16923 _ _ ?_
      refine wp_reg ?_
      refine x_move hA (fun ac hA => ?_) rfl rfl rfl rfl rfl
      refine x_move hA (fun ac hA => ?_) rfl rfl rfl rfl rfl
      refine x_b2s Tryd.underlying22 Tryd.underlying5 Tryd.underlying9 (hS.imm 3 h16930 rfl) hA (fun ac hA => ?_) rfl rfl rfl rfl rfl
      replace hS := hS.pk 1
      obtain ⟨y16931, h16932, hF⟩ := bnd hF
      refine x_call en31 hA (F_column_Text (L := own (kI .u8) 5 A0 n0 c0 a0 :: own (kM Z16742 wz16743 (kI .u8)) 22 (some ⟨g16750, 0, none⟩) 5 5 [y16695, y16700, y16705, y16710, y16715] :: zone Z16742 wz16743 :: L) l16883 (bts x16924) A16884 n16885 c16886 h16932 hS) (fun v ac w hR hA => ?_) rfl rfl rfl rfl rfl
      obtain ⟨B16933, m16934, d16935, rfl, hS⟩ := hR
      refine x_assign hA (fun ac hA => ?_) rfl rfl rfl rfl rfl
      refine wpList_nil ?_
      refine hKx16922 _ _ ?_
      refine hK16921 _ _ ?_
      refine wp_reg ?_
      obtain ⟨x16936, h16937, hF⟩ := ltt_ hF
      refine x_val (v := .int .i64 x16936) hA (rv_i h16937 (r_add rfl (hA.ev rfl) (hA.ev rfl))) (fun ac hA => ?_) rfl rfl rfl
      refine x_move hA (fun ac hA => ?_) rfl rfl rfl rfl rfl
      refine wpList_nil ?_
      replace hS := hS.pk 3
      replace hS := hS.pk 3
      replace hS := hS.pk 2
      replace hS := hS.pk 3
      cases hF
      exact ⟨_, N16916_ _ rfl, B16933, m16934, d16935, hA.sub _ rfl, hS⟩
    replace hF := iff' hb16920 hF
    refine wp_exit ?_
    replace hS := hS.drop 2
    cases hF
    exact hx16916_2 l16883 (T16916_ _ rfl) A16884 n16885 c16886 ac w (hA.sub _ rfl) hS
  obtain ⟨t20600, hl20600, hF⟩ := bnd hF
  have hx20600_0 : ∀ (l20581 : (List Int)) (l20585 : (List Int)) (l20589 : (List Int)) (l20593 : (List (List UInt8))) (l20597 : (List Nat)), (l20581, l20585, l20589, l20593, l20597) = t20600 → ∀ (A20582 : Option Addr) (n20583 : Nat) (c20584 : Nat) (A20586 : Option Addr) (n20587 : Nat) (c20588 : Nat) (A20590 : Option Addr) (n20591 : Nat) (c20592 : Nat) (A20594 : Option Addr) (n20595 : Nat) (c20596 : Nat) (A20598 : Option Addr) (n20599 : Nat) (c20600 : Nat) (ac : Act) (w : World), FR 72 [] ac [(0, .slice A0 n0 c0), (5, .slice A20582 n20583 c20584), (6, .slice A20586 n20587 c20588), (7, .slice A20590 n20591 c20592), (8, .slice A20594 n20595 c20596), (9, .slice A20598 n20599 c20600)] → SH r (own (kI .u8) 5 A0 n0 c0 a0 :: own (kI .i64) 2 A20582 n20583 c20584 l20581 :: own (kI .i64) 2 A20586 n20587 c20588 l20585 :: own (kI .i64) 2 A20590 n20591 c20592 l20589 :: own kS 9 A20594 n20595 c20596 l20593 :: own kF 37 A20598 n20599 c20600 l20597 :: zone Z wz :: L) w → Kx10998 ac w := by
    intro l20581 l20585 l20589 l20593 l20597 ht A20582 n20583 c20584 A20586 n20587 c20588 A20590 n20591 c20592 A20594 n20595 c20596 A20598 n20599 c20600 ac w hA hS
    subst ht
    replace hF : event_Lay_x2_0 a0 l20581 l20585 l20589 l20593 l20597 = some y := hF
    unfold event_Lay_x2_0 at hF
    exact hb1 l20581 l20585 l20589 l20593 l20597 hF A20582 n20583 c20584 A20586 n20587 c20588 A20590 n20591 c20592 A20594 n20595 c20596 A20598 n20599 c20600 ac w (hA.sub _ rfl) hS
  replace hS := SH.nil_own (d := (kI .i64)) (e := 2) hS
  replace hS := SH.nil_own (d := (kI .i64)) (e := 2) hS
  replace hS := SH.nil_own (d := (kI .i64)) (e := 2) hS
  replace hS := SH.nil_own (d := kS) (e := 9) hS
  replace hS := SH.nil_own (d := kF) (e := 37) hS
  replace hS := hS.pk 6
  replace hS := hS.pk 1
  replace hS := hS.pk 2
  replace hS := hS.pk 3
  replace hS := hS.pk 4
  replace hS := hS.pk 5
  replace hS := hS.pk 6
  refine wp_loop_fn hl20600 (fun s ac w => ∃ (A18770 : Option Addr) (n18771 : Nat) (c18772 : Nat) (A18774 : Option Addr) (n18775 : Nat) (c18776 : Nat) (A18778 : Option Addr) (n18779 : Nat) (c18780 : Nat) (A18782 : Option Addr) (n18783 : Nat) (c18784 : Nat) (A18786 : Option Addr) (n18787 : Nat) (c18788 : Nat), FR 72 [] ac [(0, .slice A0 n0 c0), (5, .slice A18770 n18771 c18772), (6, .slice A18774 n18775 c18776), (7, .slice A18778 n18779 c18780), (8, .slice A18782 n18783 c18784), (9, .slice A18786 n18787 c18788), (15, .slice A1 n1 c1), (16, .int .i64 (a1.length : Int)), (17, .int .i64 s.2.2.2.2.2)] ∧ SH r (own (kI .u8) 5 A0 n0 c0 a0 :: own (kI .i64) 2 A18770 n18771 c18772 s.1 :: own (kI .i64) 2 A18774 n18775 c18776 s.2.1 :: own (kI .i64) 2 A18778 n18779 c18780 s.2.2.1 :: own kS 9 A18782 n18783 c18784 s.2.2.2.1 :: own kF 37 A18786 n18787 c18788 s.2.2.2.2.1 :: zone Z wz :: L) w) ⟨none, 0, 0, none, 0, 0, none, 0, 0, none, 0, 0, none, 0, 0, hA.sub _ rfl, hS⟩ ?_
  intro N20600 s20600 o20600 hF N20600_ T20600_ ac w hLab
  obtain ⟨l18769, l18773, l18777, l18781, l18785, x18789⟩ := s20600
  replace hF : event_Lay_l2 a1 l18769 l18773 l18777 l18781 l18785 x18789 = some o20600 := hF
  unfold event_Lay_l2 at hF
  try dsimp only at hLab
  obtain ⟨A18770, n18771, c18772, A18774, n18775, c18776, A18778, n18779, c18780, A18782, n18783, c18784, A18786, n18787, c18788, hA, hS⟩ := hLab
  refine wp_seq_k fun K20602 hK20602 => ?_
  refine wp_reg ?_
  refine x_val hA (r_ltI rfl (hA.ev rfl) (hA.ev rfl)) (fun ac hA => ?_) rfl rfl rfl
  refine wpList_nil ?_
  refine hK20602 _ _ ?_
  refine wp_seq_k fun K20603 hK20603 => ?_
  refine c_if hA rfl (fun hb20604 => ?_) fun hb20604 => ?_
  · replace hF := ift hb20604 hF
    refine wp_skip ?_
    refine hK20603 _ _ ?_
    refine wp_seq_k fun K20605 hK20605 => ?_
    refine wp_block_k fun Kx21488 hKx21488 => ?_
    have hb3 : ∀ (l21919 : (List Int)) (l21923 : (List Int)) (l21927 : (List Int)) (l21931 : (List (List UInt8))) (l21935 : (List Nat)), event_Lay_b3 x18789 l21919 l21923 l21927 l21931 l21935 = some o20600 → ∀ (A21920 : Option Addr) (n21921 : Nat) (c21922 : Nat) (A21924 : Option Addr) (n21925 : Nat) (c21926 : Nat) (A21928 : Option Addr) (n21929 : Nat) (c21930 : Nat) (A21932 : Option Addr) (n21933 : Nat) (c21934 : Nat) (A21936 : Option Addr) (n21937 : Nat) (c21938 : Nat) (ac : Act) (w : World), FR 72 [] ac [(0, .slice A0 n0 c0), (5, .slice A21920 n21921 c21922), (6, .slice A21924 n21925 c21926), (7, .slice A21928 n21929 c21930), (8, .slice A21932 n21933 c21934), (9, .slice A21936 n21937 c21938), (15, .slice A1 n1 c1), (16, .int .i64 (a1.length : Int)), (17, .int .i64 x18789)] → SH r (own (kI .u8) 5 A0 n0 c0 a0 :: own (kI .i64) 2 A21920 n21921 c21922 l21919 :: own (kI .i64) 2 A21924 n21925 c21926 l21923 :: own (kI .i64) 2 A21928 n21929 c21930 l21927 :: own kS 9 A21932 n21933 c21934 l21931 :: own kF 37 A21936 n21937 c21938 l21935 :: zone Z wz :: L) w → Kx21488 ac w := by
      intro l21919 l21923 l21927 l21931 l21935 hF A21920 n21921 c21922 A21924 n21925 c21926 A21928 n21929 c21930 A21932 n21933 c21934 A21936 n21937 c21938 ac w hA hS
      unfold event_Lay_b3 at hF
      refine hKx21488 _ _ ?_
      refine hK20605 _ _ ?_
      refine wp_reg ?_
      obtain ⟨x21939, h21940, hF⟩ := ltt_ hF
      refine x_val (v := .int .i64 x21939) hA (rv_i h21940 (r_add rfl (hA.ev rfl) (hA.ev rfl))) (fun ac hA => ?_) rfl rfl rfl
      refine x_move hA (fun ac hA => ?_) rfl rfl rfl rfl rfl
      refine wpList_nil ?_
      cases hF
      exact ⟨_, N20600_ _ rfl, A21920, n21921, c21922, A21924, n21925, c21926, A21928, n21929, c21930, A21932, n21933, c21934, A21936, n21937, c21938, hA.sub _ rfl, hS⟩
    refine wp_seq_k fun K21941 hK21941 => ?_
    refine wp_reg ?_
    obtain ⟨x21942, h21943, hF⟩ := bnd hF
    refine x_ia Tryd.underlying24 sz39 (hS.imm 6 ha1 rfl) h21943 hA (fun ac hA => ?_) rfl rfl rfl rfl rfl rfl
    obtain ⟨cs, hV, hc21944⟩ := el (hS.imm 6 ha1 rfl) h21943
    obtain rfl := hV
    refine x_lda (cs := [.int .u64 x21942.f0, .int .i64 x21942.f1, .int .i64 x21942.f2, str x21942.f3, .float .f64 x21942.f4]) Tryd.underlying39 sz39 (fun j u h => by rw [ea_add]; exact hc21944 _ _ h) hA (fun ac hA => ?_) rfl rfl rfl rfl rfl rfl
    refine x_alloc (cs := [.int .u64 0, .int .i64 0, .int .i64 0, str [], .float .f64 0]) zr39 hA hS (fun g21945 ac w hS hA => ?_) rfl rfl rfl rfl rfl
    refine x_stb 0 sz39 hA hS rfl (fun  ac w hS hA => ?_) rfl rfl rfl rfl rfl rfl rfl rfl
    refine wpList_nil ?_
    refine hK21941 _ _ ?_
    refine wp_seq_k fun K21946 hK21946 => ?_
    have hj1 : ∀ (l22139 : (List Int)), event_Lay_j1 l18773 l18777 l18781 l18785 x18789 x21942 l22139 = some o20600 → ∀ (A22140 : Option Addr) (n22141 : Nat) (c22142 : Nat) (A22143 : Option Addr) (n22144 : Nat) (c22145 : Nat) (A22146 : Option Addr) (n22147 : Nat) (c22148 : Nat) (ac : Act) (w : World), FR 72 [] ac [(0, .slice A0 n0 c0), (5, .slice A22140 n22141 c22142), (6, .slice A22143 n22144 c22145), (7, .slice A22146 n22147 c22148), (8, .slice A18782 n18783 c18784), (9, .slice A18786 n18787 c18788), (11, .pointer (some ⟨g21945, 0, none⟩)), (15, .slice A1 n1 c1), (16, .int .i64 (a1.length : Int)), (17, .int .i64 x18789)] → SH r (blk g21945 39 [.int .u64 x21942.f0, .int .i64 x21942.f1, .int .i64 x21942.f2, str x21942.f3, .float .f64 x21942.f4] :: own (kI .u8) 5 A0 n0 c0 a0 :: own (kI .i64) 2 A22140 n22141 c22142 l22139 :: own (kI .i64) 2 A22143 n22144 c22145 (l18773 ++ [x21942.f1]) :: own (kI .i64) 2 A22146 n22147 c22148 (l18777 ++ [x21942.f2]) :: own kS 9 A18782 n18783 c18784 l18781 :: own kF 37 A18786 n18787 c18788 l18785 :: zone Z wz :: L) w → K21946 ac w := by
      intro l22139 hF A22140 n22141 c22142 A22143 n22144 c22145 A22146 n22147 c22148 ac w hA hS
      unfold event_Lay_j1 at hF
      refine hK21946 _ _ ?_
      refine wp_draw [0, 0, 2, 6, 15, 0, 0, 64, 192, 511, 1023, 2047] [3, 4, 8, 9] rfl hA hS (by kernel_rfl) (by kernel_rfl) (by kernel_rfl) (by kernel_rfl) fun w hS => ?_
      refine ⟨[(0, .slice A18782 n18783 c18784), (1, .pointer (some ⟨g21945, 3, none⟩)), (2, str x21942.f3), (5, .slice A18786 n18787 c18788), (6, .pointer (some ⟨g21945, 4, none⟩)), (7, .float .f64 x21942.f4)], ?_⟩
      refine dEff [0, 1, 2, 5, 6, 7] [3, 8] (by kernel_rfl) ⟨pu rfl rfl [(8, .slice A18782 n18783 c18784)] (fun ac hA => y_move hA rfl rfl) rfl rfl, pu rfl rfl [(11, .pointer (some ⟨g21945, 0, none⟩))] (fun ac hA => y_fab fa39_3 hA rfl rfl) rfl rfl, pu rfl rfl [(38, .pointer (some ⟨g21945, 3, none⟩))] (fun ac hA => y_ld Tryd.underlying9 (hS.cell 0 rfl 3 _ rfl) hA rfl rfl rfl) rfl rfl, pu rfl rfl [(9, .slice A18786 n18787 c18788)] (fun ac hA => y_move hA rfl rfl) rfl rfl, pu rfl rfl [(11, .pointer (some ⟨g21945, 0, none⟩))] (fun ac hA => y_fab fa39_4 hA rfl rfl) rfl rfl, pu rfl rfl [(43, .pointer (some ⟨g21945, 4, none⟩))] (fun ac hA => y_ld Tryd.underlying37 (hS.cell 0 rfl 4 _ rfl) hA rfl rfl rfl) rfl rfl, trivial⟩ (by kernel_rfl) (by kernel_rfl) ⟨?_, ?_, trivial⟩
      · refine ef rfl [(39, str x21942.f3)] (fun ac hA K hK => ?_) rfl rfl
        refine z_bsl (d := kS) (e := 9) (ps := #[(0, str x21942.f3)]) (cells := [str x21942.f3]) (xs := [x21942.f3]) (fun w => by kernel_rfl) rfl ⟨[str x21942.f3], _, rfl, rfl, rfl⟩ hA hS (fun g22149 w hS => ?_) rfl rfl rfl
        refine hK _ [] _ rfl ?_
        refine dEff [0, 5, 6, 7] [4, 8] (by kernel_rfl) ⟨pu rfl rfl [(8, .slice A18782 n18783 c18784)] (fun ac hA => y_move hA rfl rfl) rfl rfl, pu rfl rfl [(9, .slice A18786 n18787 c18788)] (fun ac hA => y_move hA rfl rfl) rfl rfl, pu rfl rfl [(11, .pointer (some ⟨g21945, 0, none⟩))] (fun ac hA => y_fab fa39_4 hA rfl rfl) rfl rfl, pu rfl rfl [(43, .pointer (some ⟨g21945, 4, none⟩))] (fun ac hA => y_ld Tryd.underlying37 (hS.cell 1 rfl 4 _ rfl) hA rfl rfl rfl) rfl rfl, trivial⟩ (by kernel_rfl) (by kernel_rfl) ⟨?_, ?_, trivial⟩
        · refine ef rfl [(37, .slice A18782 n18783 c18784), (40, .slice (some ⟨g22149, 0, none⟩) 1 1)] (fun ac hA K hK => ?_) rfl rfl
          obtain ⟨h22150, hF⟩ := chk_some hF
          have hr := hS.rd 0 rfl
          refine z_app 6 inf9 Tryd.underlying50 hA hS hr.1 hr.2.1 h22150 rfl (fun A22151 n22152 c22153 w hS => ?_) rfl rfl rfl rfl rfl rfl
          refine hK _ [] _ rfl ?_
          refine dEff [5, 6, 7] [8] (by kernel_rfl) ⟨pu rfl rfl [(9, .slice A18786 n18787 c18788)] (fun ac hA => y_move hA rfl rfl) rfl rfl, pu rfl rfl [(11, .pointer (some ⟨g21945, 0, none⟩))] (fun ac hA => y_fab fa39_4 hA rfl rfl) rfl rfl, pu rfl rfl [(43, .pointer (some ⟨g21945, 4, none⟩))] (fun ac hA => y_ld Tryd.underlying37 (hS.cell 2 rfl 4 _ rfl) hA rfl rfl rfl) rfl rfl, trivial⟩ (by kernel_rfl) (by kernel_rfl) ⟨ef rfl [(44, .float .f64 x21942.f4)] (fun ac hA K hK => ?_) rfl rfl, trivial⟩
          refine z_bsl (d := kF) (e := 37) (ps := #[(0, .float .f64 x21942.f4)]) (cells := [.float .f64 x21942.f4]) (xs := [x21942.f4]) (fun w => by kernel_rfl) rfl ⟨[.float .f64 x21942.f4], _, rfl, rfl, rfl⟩ hA hS (fun g22154 w hS => ?_) rfl rfl rfl
          refine hK _ [] _ rfl ?_
          refine dEff [5] [9] (by kernel_rfl) ⟨pu rfl rfl [(9, .slice A18786 n18787 c18788)] (fun ac hA => y_move hA rfl rfl) rfl rfl, trivial⟩ (by kernel_rfl) (by kernel_rfl) ⟨ef rfl [(42, .slice A18786 n18787 c18788), (45, .slice (some ⟨g22154, 0, none⟩) 1 1)] (fun ac hA K hK => ?_) rfl rfl, trivial⟩
          obtain ⟨h22155, hF⟩ := chk_some hF
          have hr := hS.rd 0 rfl
          refine z_app 8 inf37 Tryd.underlying53 hA hS hr.1 hr.2.1 h22155 rfl (fun A22156 n22157 c22158 w hS => ?_) rfl rfl rfl rfl rfl rfl
          refine hK _ [(10, .slice A22151 n22152 c22153), (11, .slice A22156 n22157 c22158)] _ rfl ?_
          refine dEnd [10, 11] (by kernel_rfl) ⟨pu rfl rfl [(41, .slice A22151 n22152 c22153)] (fun ac hA => y_assign hA rfl rfl) rfl rfl, pu rfl rfl [(46, .slice A22156 n22157 c22158)] (fun ac hA => y_assign hA rfl rfl) rfl rfl, trivial⟩ ⟨by kernel_rfl, by kernel_rfl⟩ [(0, .slice A0 n0 c0), (5, .slice A22140 n22141 c22142), (6, .slice A22143 n22144 c22145), (7, .slice A22146 n22147 c22148), (8, .slice A22151 n22152 c22153), (9, .slice A22156 n22157 c22158), (15, .slice A1 n1 c1), (16, .int .i64 (a1.length : Int)), (17, .int .i64 x18789)] rfl (fun ac hA => ?_)
          replace hS := hS.drop 1
          replace hS := hS.drop 2
          replace hS := hS.drop 2
          replace hS := hS.pk 6
          replace hS := hS.pk 1
          replace hS := hS.pk 2
          replace hS := hS.pk 6
          replace hS := hS.pk 6
          replace hS := hS.pk 6
          replace hS := hS.pk 6
          exact hb3 l22139 (l18773 ++ [x21942.f1]) (l18777 ++ [x21942.f2]) (l18781 ++ [x21942.f3]) (l18785 ++ [x21942.f4]) hF A22140 n22141 c22142 A22143 n22144 c22145 A22146 n22147 c22148 A22151 n22152 c22153 A22156 n22157 c22158 ac w (hA.sub _ rfl) hS
        · refine ef rfl [(44, .float .f64 x21942.f4)] (fun ac hA K hK => ?_) rfl rfl
          refine z_bsl (d := kF) (e := 37) (ps := #[(0, .float .f64 x21942.f4)]) (cells := [.float .f64 x21942.f4]) (xs := [x21942.f4]) (fun w => by kernel_rfl) rfl ⟨[.float .f64 x21942.f4], _, rfl, rfl, rfl⟩ hA hS (fun g22159 w hS => ?_) rfl rfl rfl
          refine hK _ [] _ rfl ?_
          refine dEff [0, 5] [4] (by kernel_rfl) ⟨pu rfl rfl [(8, .slice A18782 n18783 c18784)] (fun ac hA => y_move hA rfl rfl) rfl rfl, pu rfl rfl [(9, .slice A18786 n18787 c18788)] (fun ac hA => y_move hA rfl rfl) rfl rfl, trivial⟩ (by kernel_rfl) (by kernel_rfl) ⟨ef rfl [(37, .slice A18782 n18783 c18784), (40, .slice (some ⟨g22149, 0, none⟩) 1 1)] (fun ac hA K hK => ?_) rfl rfl, trivial⟩
          obtain ⟨h22160, hF⟩ := chk_some hF
          have hr := hS.rd 1 rfl
          refine z_app 7 inf9 Tryd.underlying50 hA hS hr.1 hr.2.1 h22160 rfl (fun A22161 n22162 c22163 w hS => ?_) rfl rfl rfl rfl rfl rfl
          refine hK _ [] _ rfl ?_
          refine dEff [5] [9] (by kernel_rfl) ⟨pu rfl rfl [(9, .slice A18786 n18787 c18788)] (fun ac hA => y_move hA rfl rfl) rfl rfl, trivial⟩ (by kernel_rfl) (by kernel_rfl) ⟨ef rfl [(42, .slice A18786 n18787 c18788), (45, .slice (some ⟨g22159, 0, none⟩) 1 1)] (fun ac hA K hK => ?_) rfl rfl, trivial⟩
          obtain ⟨h22164, hF⟩ := chk_some hF
          have hr := hS.rd 1 rfl
          refine z_app 8 inf37 Tryd.underlying53 hA hS hr.1 hr.2.1 h22164 rfl (fun A22165 n22166 c22167 w hS => ?_) rfl rfl rfl rfl rfl rfl
          refine hK _ [(10, .slice A22161 n22162 c22163), (11, .slice A22165 n22166 c22167)] _ rfl ?_
          refine dEnd [10, 11] (by kernel_rfl) ⟨pu rfl rfl [(41, .slice A22161 n22162 c22163)] (fun ac hA => y_assign hA rfl rfl) rfl rfl, pu rfl rfl [(46, .slice A22165 n22166 c22167)] (fun ac hA => y_assign hA rfl rfl) rfl rfl, trivial⟩ ⟨by kernel_rfl, by kernel_rfl⟩ [(0, .slice A0 n0 c0), (5, .slice A22140 n22141 c22142), (6, .slice A22143 n22144 c22145), (7, .slice A22146 n22147 c22148), (8, .slice A22161 n22162 c22163), (9, .slice A22165 n22166 c22167), (15, .slice A1 n1 c1), (16, .int .i64 (a1.length : Int)), (17, .int .i64 x18789)] rfl (fun ac hA => ?_)
          replace hS := hS.drop 2
          replace hS := hS.drop 2
          replace hS := hS.drop 2
          replace hS := hS.pk 6
          replace hS := hS.pk 1
          replace hS := hS.pk 2
          replace hS := hS.pk 6
          replace hS := hS.pk 6
          replace hS := hS.pk 6
          replace hS := hS.pk 6
          exact hb3 l22139 (l18773 ++ [x21942.f1]) (l18777 ++ [x21942.f2]) (l18781 ++ [x21942.f3]) (l18785 ++ [x21942.f4]) hF A22140 n22141 c22142 A22143 n22144 c22145 A22146 n22147 c22148 A22161 n22162 c22163 A22165 n22166 c22167 ac w (hA.sub _ rfl) hS
      · refine ef rfl [(44, .float .f64 x21942.f4)] (fun ac hA K hK => ?_) rfl rfl
        refine z_bsl (d := kF) (e := 37) (ps := #[(0, .float .f64 x21942.f4)]) (cells := [.float .f64 x21942.f4]) (xs := [x21942.f4]) (fun w => by kernel_rfl) rfl ⟨[.float .f64 x21942.f4], _, rfl, rfl, rfl⟩ hA hS (fun g22168 w hS => ?_) rfl rfl rfl
        refine hK _ [] _ rfl ?_
        refine dEff [0, 1, 2, 5] [3] (by kernel_rfl) ⟨pu rfl rfl [(8, .slice A18782 n18783 c18784)] (fun ac hA => y_move hA rfl rfl) rfl rfl, pu rfl rfl [(11, .pointer (some ⟨g21945, 0, none⟩))] (fun ac hA => y_fab fa39_3 hA rfl rfl) rfl rfl, pu rfl rfl [(38, .pointer (some ⟨g21945, 3, none⟩))] (fun ac hA => y_ld Tryd.underlying9 (hS.cell 1 rfl 3 _ rfl) hA rfl rfl rfl) rfl rfl, pu rfl rfl [(9, .slice A18786 n18787 c18788)] (fun ac hA => y_move hA rfl rfl) rfl rfl, trivial⟩ (by kernel_rfl) (by kernel_rfl) ⟨ef rfl [(39, str x21942.f3)] (fun ac hA K hK => ?_) rfl rfl, trivial⟩
        refine z_bsl (d := kS) (e := 9) (ps := #[(0, str x21942.f3)]) (cells := [str x21942.f3]) (xs := [x21942.f3]) (fun w => by kernel_rfl) rfl ⟨[str x21942.f3], _, rfl, rfl, rfl⟩ hA hS (fun g22169 w hS => ?_) rfl rfl rfl
        refine hK _ [] _ rfl ?_
        refine dEff [0, 5] [4] (by kernel_rfl) ⟨pu rfl rfl [(8, .slice A18782 n18783 c18784)] (fun ac hA => y_move hA rfl rfl) rfl rfl, pu rfl rfl [(9, .slice A18786 n18787 c18788)] (fun ac hA => y_move hA rfl rfl) rfl rfl, trivial⟩ (by kernel_rfl) (by kernel_rfl) ⟨ef rfl [(37, .slice A18782 n18783 c18784), (40, .slice (some ⟨g22169, 0, none⟩) 1 1)] (fun ac hA K hK => ?_) rfl rfl, trivial⟩
        obtain ⟨h22170, hF⟩ := chk_some hF
        have hr := hS.rd 0 rfl
        refine z_app 7 inf9 Tryd.underlying50 hA hS hr.1 hr.2.1 h22170 rfl (fun A22171 n22172 c22173 w hS => ?_) rfl rfl rfl rfl rfl rfl
        refine hK _ [] _ rfl ?_
        refine dEff [5] [9] (by kernel_rfl) ⟨pu rfl rfl [(9, .slice A18786 n18787 c18788)] (fun ac hA => y_move hA rfl rfl) rfl rfl, trivial⟩ (by kernel_rfl) (by kernel_rfl) ⟨ef rfl [(42, .slice A18786 n18787 c18788), (45, .slice (some ⟨g22168, 0, none⟩) 1 1)] (fun ac hA K hK => ?_) rfl rfl, trivial⟩
        obtain ⟨h22174, hF⟩ := chk_some hF
        have hr := hS.rd 2 rfl
        refine z_app 8 inf37 Tryd.underlying53 hA hS hr.1 hr.2.1 h22174 rfl (fun A22175 n22176 c22177 w hS => ?_) rfl rfl rfl rfl rfl rfl
        refine hK _ [(10, .slice A22171 n22172 c22173), (11, .slice A22175 n22176 c22177)] _ rfl ?_
        refine dEnd [10, 11] (by kernel_rfl) ⟨pu rfl rfl [(41, .slice A22171 n22172 c22173)] (fun ac hA => y_assign hA rfl rfl) rfl rfl, pu rfl rfl [(46, .slice A22175 n22176 c22177)] (fun ac hA => y_assign hA rfl rfl) rfl rfl, trivial⟩ ⟨by kernel_rfl, by kernel_rfl⟩ [(0, .slice A0 n0 c0), (5, .slice A22140 n22141 c22142), (6, .slice A22143 n22144 c22145), (7, .slice A22146 n22147 c22148), (8, .slice A22171 n22172 c22173), (9, .slice A22175 n22176 c22177), (15, .slice A1 n1 c1), (16, .int .i64 (a1.length : Int)), (17, .int .i64 x18789)] rfl (fun ac hA => ?_)
        replace hS := hS.drop 2
        replace hS := hS.drop 2
        replace hS := hS.drop 2
        replace hS := hS.pk 6
        replace hS := hS.pk 1
        replace hS := hS.pk 2
        replace hS := hS.pk 6
        replace hS := hS.pk 6
        replace hS := hS.pk 6
        replace hS := hS.pk 6
        exact hb3 l22139 (l18773 ++ [x21942.f1]) (l18777 ++ [x21942.f2]) (l18781 ++ [x21942.f3]) (l18785 ++ [x21942.f4]) hF A22140 n22141 c22142 A22143 n22144 c22145 A22146 n22147 c22148 A22171 n22172 c22173 A22175 n22176 c22177 ac w (hA.sub _ rfl) hS
    refine wp_draw [0, 0, 2, 6, 14, 31, 0, 0, 128, 384, 1023, 0, 0, 4096, 12288, 32767, 65535, 131071, 262143] [4, 5, 9, 10, 14, 15] rfl hA hS (by kernel_rfl) (by kernel_rfl) (by kernel_rfl) (by kernel_rfl) fun w hS => ?_
    obtain ⟨x22178, h22179, hF⟩ := ltt_ hF
    refine ⟨[(0, .slice A18770 n18771 c18772), (1, .pointer (some ⟨g21945, 0, none⟩)), (2, .int .u64 x21942.f0), (3, .int .i64 x22178), (6, .slice A18774 n18775 c18776), (7, .pointer (some ⟨g21945, 1, none⟩)), (8, .int .i64 x21942.f1), (11, .slice A18778 n18779 c18780), (12, .pointer (some ⟨g21945, 2, none⟩)), (13, .int .i64 x21942.f2)], ?_⟩
    refine dEff [0, 1, 2, 3, 6, 7, 8, 11, 12, 13] [4, 9, 14] (by kernel_rfl) ⟨pu rfl rfl [(5, .slice A18770 n18771 c18772)] (fun ac hA => y_move hA rfl rfl) rfl rfl, pu rfl rfl [(11, .pointer (some ⟨g21945, 0, none⟩))] (fun ac hA => y_fab fa39_0 hA rfl rfl) rfl rfl, pu rfl rfl [(22, .pointer (some ⟨g21945, 0, none⟩))] (fun ac hA => y_ld Tryd.underlying36 (hS.cell 0 rfl 0 _ rfl) hA rfl rfl rfl) rfl rfl, pu rfl rfl [(23, .int .u64 x21942.f0)] (fun ac hA => (rv_i h22179 (r_convI Tryd.underlying36 Tryd.underlying2 rfl (hA.ev rfl)) : RunV _ _ _ _ (.int .i64 x22178))) rfl rfl, pu rfl rfl [(6, .slice A18774 n18775 c18776)] (fun ac hA => y_move hA rfl rfl) rfl rfl, pu rfl rfl [(11, .pointer (some ⟨g21945, 0, none⟩))] (fun ac hA => y_fab fa39_1 hA rfl rfl) rfl rfl, pu rfl rfl [(28, .pointer (some ⟨g21945, 1, none⟩))] (fun ac hA => y_ld Tryd.underlying3 (hS.cell 0 rfl 1 _ rfl) hA rfl rfl rfl) rfl rfl, pu rfl rfl [(7, .slice A18778 n18779 c18780)] (fun ac hA => y_move hA rfl rfl) rfl rfl, pu rfl rfl [(11, .pointer (some ⟨g21945, 0, none⟩))] (fun ac hA => y_fab fa39_2 hA rfl rfl) rfl rfl, pu rfl rfl [(33, .pointer (some ⟨g21945, 2, none⟩))] (fun ac hA => y_ld Tryd.underlying2 (hS.cell 0 rfl 2 _ rfl) hA rfl rfl rfl) rfl rfl, trivial⟩ (by kernel_rfl) (by kernel_rfl) ⟨?_, ?_, ?_, trivial⟩
    · refine ef rfl [(24, .int .i64 x22178)] (fun ac hA K hK => ?_) rfl rfl
      refine z_bsl (d := (kI .i64)) (e := 2) (ps := #[(0, .int .i64 x22178)]) (cells := [.int .i64 x22178]) (xs := [x22178]) (fun w => by kernel_rfl) rfl ⟨[.int .i64 x22178], _, rfl, rfl, rfl⟩ hA hS (fun g22180 w hS => ?_) rfl rfl rfl
      refine hK _ [] _ rfl ?_
      refine dEff [0, 6, 7, 8, 11, 12, 13] [5, 9, 14] (by kernel_rfl) ⟨pu rfl rfl [(5, .slice A18770 n18771 c18772)] (fun ac hA => y_move hA rfl rfl) rfl rfl, pu rfl rfl [(6, .slice A18774 n18775 c18776)] (fun ac hA => y_move hA rfl rfl) rfl rfl, pu rfl rfl [(11, .pointer (some ⟨g21945, 0, none⟩))] (fun ac hA => y_fab fa39_1 hA rfl rfl) rfl rfl, pu rfl rfl [(28, .pointer (some ⟨g21945, 1, none⟩))] (fun ac hA => y_ld Tryd.underlying3 (hS.cell 1 rfl 1 _ rfl) hA rfl rfl rfl) rfl rfl, pu rfl rfl [(7, .slice A18778 n18779 c18780)] (fun ac hA => y_move hA rfl rfl) rfl rfl, pu rfl rfl [(11, .pointer (some ⟨g21945, 0, none⟩))] (fun ac hA => y_fab fa39_2 hA rfl rfl) rfl rfl, pu rfl rfl [(33, .pointer (some ⟨g21945, 2, none⟩))] (fun ac hA => y_ld Tryd.underlying2 (hS.cell 1 rfl 2 _ rfl) hA rfl rfl rfl) rfl rfl, trivial⟩ (by kernel_rfl) (by kernel_rfl) ⟨?_, ?_, ?_, trivial⟩
      · refine ef rfl [(21, .slice A18770 n18771 c18772), (25, .slice (some ⟨g22180, 0, none⟩) 1 1)] (fun ac hA K hK => ?_) rfl rfl
        obtain ⟨h22181, hF⟩ := chk_some hF
        have hr := hS.rd 0 rfl
        refine z_app 3 inf2 Tryd.underlying47 hA hS hr.1 hr.2.1 h22181 rfl (fun A22182 n22183 c22184 w hS => ?_) rfl rfl rfl rfl rfl rfl
        refine hK _ [] _ rfl ?_
        refine dEff [6, 7, 8, 11, 12, 13] [9, 14] (by kernel_rfl) ⟨pu rfl rfl [(6, .slice A18774 n18775 c18776)] (fun ac hA => y_move hA rfl rfl) rfl rfl, pu rfl rfl [(11, .pointer (some ⟨g21945, 0, none⟩))] (fun ac hA => y_fab fa39_1 hA rfl rfl) rfl rfl, pu rfl rfl [(28, .pointer (some ⟨g21945, 1, none⟩))] (fun ac hA => y_ld Tryd.underlying3 (hS.cell 2 rfl 1 _ rfl) hA rfl rfl rfl) rfl rfl, pu rfl rfl [(7, .slice A18778 n18779 c18780)] (fun ac hA => y_move hA rfl rfl) rfl rfl, pu rfl rfl [(11, .pointer (some ⟨g21945, 0, none⟩))] (fun ac hA => y_fab fa39_2 hA rfl rfl) rfl rfl, pu rfl rfl [(33, .pointer (some ⟨g21945, 2, none⟩))] (fun ac hA => y_ld Tryd.underlying2 (hS.cell 2 rfl 2 _ rfl) hA rfl rfl rfl) rfl rfl, trivial⟩ (by kernel_rfl) (by kernel_rfl) ⟨?_, ?_, trivial⟩
        · refine ef rfl [(29, .int .i64 x21942.f1)] (fun ac hA K hK => ?_) rfl rfl
          refine z_bsl (d := (kI .i64)) (e := 2) (ps := #[(0, .int .i64 x21942.f1)]) (cells := [.int .i64 x21942.f1]) (xs := [x21942.f1]) (fun w => by kernel_rfl) rfl ⟨[.int .i64 x21942.f1], _, rfl, rfl, rfl⟩ hA hS (fun g22185 w hS => ?_) rfl rfl rfl
          refine hK _ [] _ rfl ?_
          refine dEff [6, 11, 12, 13] [10, 14] (by kernel_rfl) ⟨pu rfl rfl [(6, .slice A18774 n18775 c18776)] (fun ac hA => y_move hA rfl rfl) rfl rfl, pu rfl rfl [(7, .slice A18778 n18779 c18780)] (fun ac hA => y_move hA rfl rfl) rfl rfl, pu rfl rfl [(11, .pointer (some ⟨g21945, 0, none⟩))] (fun ac hA => y_fab fa39_2 hA rfl rfl) rfl rfl, pu rfl rfl [(33, .pointer (some ⟨g21945, 2, none⟩))] (fun ac hA => y_ld Tryd.underlying2 (hS.cell 3 rfl 2 _ rfl) hA rfl rfl rfl) rfl rfl, trivial⟩ (by kernel_rfl) (by kernel_rfl) ⟨?_, ?_, trivial⟩
          · refine ef rfl [(27, .slice A18774 n18775 c18776), (30, .slice (some ⟨g22185, 0, none⟩) 1 1)] (fun ac hA K hK => ?_) rfl rfl
            obtain ⟨h22186, hF⟩ := chk_some hF
            have hr := hS.rd 0 rfl
            refine z_app 5 inf2 Tryd.underlying47 hA hS hr.1 hr.2.1 h22186 rfl (fun A22187 n22188 c22189 w hS => ?_) rfl rfl rfl rfl rfl rfl
            refine hK _ [] _ rfl ?_
            refine dEff [11, 12, 13] [14] (by kernel_rfl) ⟨pu rfl rfl [(7, .slice A18778 n18779 c18780)] (fun ac hA => y_move hA rfl rfl) rfl rfl, pu rfl rfl [(11, .pointer (some ⟨g21945, 0, none⟩))] (fun ac hA => y_fab fa39_2 hA rfl rfl) rfl rfl, pu rfl rfl [(33, .pointer (some ⟨g21945, 2, none⟩))] (fun ac hA => y_ld Tryd.underlying2 (hS.cell 4 rfl 2 _ rfl) hA rfl rfl rfl) rfl rfl, trivial⟩ (by kernel_rfl) (by kernel_rfl) ⟨ef rfl [(34, .int .i64 x21942.f2)] (fun ac hA K hK => ?_) rfl rfl, trivial⟩
            refine z_bsl (d := (kI .i64)) (e := 2) (ps := #[(0, .int .i64 x21942.f2)]) (cells := [.int .i64 x21942.f2]) (xs := [x21942.f2]) (fun w => by kernel_rfl) rfl ⟨[.int .i64 x21942.f2], _, rfl, rfl, rfl⟩ hA hS (fun g22190 w hS => ?_) rfl rfl rfl
            refine hK _ [] _ rfl ?_
            refine dEff [11] [15] (by kernel_rfl) ⟨pu rfl rfl [(7, .slice A18778 n18779 c18780)] (fun ac hA => y_move hA rfl rfl) rfl rfl, trivial⟩ (by kernel_rfl) (by kernel_rfl) ⟨ef rfl [(32, .slice A18778 n18779 c18780), (35, .slice (some ⟨g22190, 0, none⟩) 1 1)] (fun ac hA K hK => ?_) rfl rfl, trivial⟩
            obtain ⟨h22191, hF⟩ := chk_some hF
            have hr := hS.rd 0 rfl
            refine z_app 7 inf2 Tryd.underlying47 hA hS hr.1 hr.2.1 h22191 rfl (fun A22192 n22193 c22194 w hS => ?_) rfl rfl rfl rfl rfl rfl
            refine hK _ [(16, .slice A22182 n22183 c22184), (17, .slice A22187 n22188 c22189), (18, .slice A22192 n22193 c22194)] _ rfl ?_
            refine dEnd [16, 17, 18] (by kernel_rfl) ⟨pu rfl rfl [(26, .slice A22182 n22183 c22184)] (fun ac hA => y_assign hA rfl rfl) rfl rfl, pu rfl rfl [(31, .slice A22187 n22188 c22189)] (fun ac hA => y_assign hA rfl rfl) rfl rfl, pu rfl rfl [(36, .slice A22192 n22193 c22194)] (fun ac hA => y_assign hA rfl rfl) rfl rfl, trivial⟩ ⟨by kernel_rfl, by kernel_rfl⟩ [(0, .slice A0 n0 c0), (5, .slice A22182 n22183 c22184), (6, .slice A22187 n22188 c22189), (7, .slice A22192 n22193 c22194), (8, .slice A18782 n18783 c18784), (9, .slice A18786 n18787 c18788), (11, .pointer (some ⟨g21945, 0, none⟩)), (15, .slice A1 n1 c1), (16, .int .i64 (a1.length : Int)), (17, .int .i64 x18789)] rfl (fun ac hA => ?_)
            replace hS := hS.drop 1
            replace hS := hS.drop 2
            replace hS := hS.drop 3
            replace hS := hS.pk 7
            replace hS := hS.pk 7
            replace hS := hS.pk 7
            replace hS := hS.pk 3
            replace hS := hS.pk 4
            replace hS := hS.pk 5
            replace hS := hS.pk 7
            replace hS := hS.pk 7
            exact hj1 (l18769 ++ [x22178]) hF A22182 n22183 c22184 A22187 n22188 c22189 A22192 n22193 c22194 ac w (hA.sub _ rfl) hS
          · refine ef rfl [(34, .int .i64 x21942.f2)] (fun ac hA K hK => ?_) rfl rfl
            refine z_bsl (d := (kI .i64)) (e := 2) (ps := #[(0, .int .i64 x21942.f2)]) (cells := [.int .i64 x21942.f2]) (xs := [x21942.f2]) (fun w => by kernel_rfl) rfl ⟨[.int .i64 x21942.f2], _, rfl, rfl, rfl⟩ hA hS (fun g22195 w hS => ?_) rfl rfl rfl
            refine hK _ [] _ rfl ?_
            refine dEff [6, 11] [10] (by kernel_rfl) ⟨pu rfl rfl [(6, .slice A18774 n18775 c18776)] (fun ac hA => y_move hA rfl rfl) rfl rfl, pu rfl rfl [(7, .slice A18778 n18779 c18780)] (fun ac hA => y_move hA rfl rfl) rfl rfl, trivial⟩ (by kernel_rfl) (by kernel_rfl) ⟨ef rfl [(27, .slice A18774 n18775 c18776), (30, .slice (some ⟨g22185, 0, none⟩) 1 1)] (fun ac hA K hK => ?_) rfl rfl, trivial⟩
            obtain ⟨h22196, hF⟩ := chk_some hF
            have hr := hS.rd 1 rfl
            refine z_app 6 inf2 Tryd.underlying47 hA hS hr.1 hr.2.1 h22196 rfl (fun A22197 n22198 c22199 w hS => ?_) rfl rfl rfl rfl rfl rfl
            refine hK _ [] _ rfl ?_
            refine dEff [11] [15] (by kernel_rfl) ⟨pu rfl rfl [(7, .slice A18778 n18779 c18780)] (fun ac hA => y_move hA rfl rfl) rfl rfl, trivial⟩ (by kernel_rfl) (by kernel_rfl) ⟨ef rfl [(32, .slice A18778 n18779 c18780), (35, .slice (some ⟨g22195, 0, none⟩) 1 1)] (fun ac hA K hK => ?_) rfl rfl, trivial⟩
            obtain ⟨h22200, hF⟩ := chk_some hF
            have hr := hS.rd 1 rfl
            refine z_app 7 inf2 Tryd.underlying47 hA hS hr.1 hr.2.1 h22200 rfl (fun A22201 n22202 c22203 w hS => ?_) rfl rfl rfl rfl rfl rfl
            refine hK _ [(16, .slice A22182 n22183 c22184), (17, .slice A22197 n22198 c22199), (18, .slice A22201 n22202 c22203)] _ rfl ?_
            refine dEnd [16, 17, 18] (by kernel_rfl) ⟨pu rfl rfl [(26, .slice A22182 n22183 c22184)] (fun ac hA => y_assign hA rfl rfl) rfl rfl, pu rfl rfl [(31, .slice A22197 n22198 c22199)] (fun ac hA => y_assign hA rfl rfl) rfl rfl, pu rfl rfl [(36, .slice A22201 n22202 c22203)] (fun ac hA => y_assign hA rfl rfl) rfl rfl, trivial⟩ ⟨by kernel_rfl, by kernel_rfl⟩ [(0, .slice A0 n0 c0), (5, .slice A22182 n22183 c22184), (6, .slice A22197 n22198 c22199), (7, .slice A22201 n22202 c22203), (8, .slice A18782 n18783 c18784), (9, .slice A18786 n18787 c18788), (11, .pointer (some ⟨g21945, 0, none⟩)), (15, .slice A1 n1 c1), (16, .int .i64 (a1.length : Int)), (17, .int .i64 x18789)] rfl (fun ac hA => ?_)
            replace hS := hS.drop 2
            replace hS := hS.drop 2
            replace hS := hS.drop 3
            replace hS := hS.pk 7
            replace hS := hS.pk 7
            replace hS := hS.pk 7
            replace hS := hS.pk 3
            replace hS := hS.pk 4
            replace hS := hS.pk 5
            replace hS := hS.pk 7
            replace hS := hS.pk 7
            exact hj1 (l18769 ++ [x22178]) hF A22182 n22183 c22184 A22197 n22198 c22199 A22201 n22202 c22203 ac w (hA.sub _ rfl) hS
        · refine ef rfl [(34, .int .i64 x21942.f2)] (fun ac hA K hK => ?_) rfl rfl
          refine z_bsl (d := (kI .i64)) (e := 2) (ps := #[(0, .int .i64 x21942.f2)]) (cells := [.int .i64 x21942.f2]) (xs := [x21942.f2]) (fun w => by kernel_rfl) rfl ⟨[.int .i64 x21942.f2], _, rfl, rfl, rfl⟩ hA hS (fun g22204 w hS => ?_) rfl rfl rfl
          refine hK _ [] _ rfl ?_
          refine dEff [6, 7, 8, 11] [9] (by kernel_rfl) ⟨pu rfl rfl [(6, .slice A18774 n18775 c18776)] (fun ac hA => y_move hA rfl rfl) rfl rfl, pu rfl rfl [(11, .pointer (some ⟨g21945, 0, none⟩))] (fun ac hA => y_fab fa39_1 hA rfl rfl) rfl rfl, pu rfl rfl [(28, .pointer (some ⟨g21945, 1, none⟩))] (fun ac hA => y_ld Tryd.underlying3 (hS.cell 3 rfl 1 _ rfl) hA rfl rfl rfl) rfl rfl, pu rfl rfl [(7, .slice A18778 n18779 c18780)] (fun ac hA => y_move hA rfl rfl) rfl rfl, trivial⟩ (by kernel_rfl) (by kernel_rfl) ⟨ef rfl [(29, .int .i64 x21942.f1)] (fun ac hA K hK => ?_) rfl rfl, trivial⟩
          refine z_bsl (d := (kI .i64)) (e := 2) (ps := #[(0, .int .i64 x21942.f1)]) (cells := [.int .i64 x21942.f1]) (xs := [x21942.f1]) (fun w => by kernel_rfl) rfl ⟨[.int .i64 x21942.f1], _, rfl, rfl, rfl⟩ hA hS (fun g22205 w hS => ?_) rfl rfl rfl
          refine hK _ [] _ rfl ?_
          refine dEff [6, 11] [10] (by kernel_rfl) ⟨pu rfl rfl [(6, .slice A18774 n18775 c18776)] (fun ac hA => y_move hA rfl rfl) rfl rfl, pu rfl rfl [(7, .slice A18778 n18779 c18780)] (fun ac hA => y_move hA rfl rfl) rfl rfl, trivial⟩ (by kernel_rfl) (by kernel_rfl) ⟨ef rfl [(27, .slice A18774 n18775 c18776), (30, .slice (some ⟨g22205, 0, none⟩) 1 1)] (fun ac hA K hK => ?_) rfl rfl, trivial⟩
          obtain ⟨h22206, hF⟩ := chk_some hF
          have hr := hS.rd 0 rfl
          refine z_app 6 inf2 Tryd.underlying47 hA hS hr.1 hr.2.1 h22206 rfl (fun A22207 n22208 c22209 w hS => ?_) rfl rfl rfl rfl rfl rfl
          refine hK _ [] _ rfl ?_
          refine dEff [11] [15] (by kernel_rfl) ⟨pu rfl rfl [(7, .slice A18778 n18779 c18780)] (fun ac hA => y_move hA rfl rfl) rfl rfl, trivial⟩ (by kernel_rfl) (by kernel_rfl) ⟨ef rfl [(32, .slice A18778 n18779 c18780), (35, .slice (some ⟨g22204, 0, none⟩) 1 1)] (fun ac hA K hK => ?_) rfl rfl, trivial⟩
          obtain ⟨h22210, hF⟩ := chk_some hF
          have hr := hS.rd 2 rfl
          refine z_app 7 inf2 Tryd.underlying47 hA hS hr.1 hr.2.1 h22210 rfl (fun A22211 n22212 c22213 w hS => ?_) rfl rfl rfl rfl rfl rfl
          refine hK _ [(16, .slice A22182 n22183 c22184), (17, .slice A22207 n22208 c22209), (18, .slice A22211 n22212 c22213)] _ rfl ?_
          refine dEnd [16, 17, 18] (by kernel_rfl) ⟨pu rfl rfl [(26, .slice A22182 n22183 c22184)] (fun ac hA => y_assign hA rfl rfl) rfl rfl, pu rfl rfl [(31, .slice A22207 n22208 c22209)] (fun ac hA => y_assign hA rfl rfl) rfl rfl, pu rfl rfl [(36, .slice A22211 n22212 c22213)] (fun ac hA => y_assign hA rfl rfl) rfl rfl, trivial⟩ ⟨by kernel_rfl, by kernel_rfl⟩ [(0, .slice A0 n0 c0), (5, .slice A22182 n22183 c22184), (6, .slice A22207 n22208 c22209), (7, .slice A22211 n22212 c22213), (8, .slice A18782 n18783 c18784), (9, .slice A18786 n18787 c18788), (11, .pointer (some ⟨g21945, 0, none⟩)), (15, .slice A1 n1 c1), (16, .int .i64 (a1.length : Int)), (17, .int .i64 x18789)] rfl (fun ac hA => ?_)
          replace hS := hS.drop 2
          replace hS := hS.drop 2
          replace hS := hS.drop 3
          replace hS := hS.pk 7
          replace hS := hS.pk 7
          replace hS := hS.pk 7
          replace hS := hS.pk 3
          replace hS := hS.pk 4
          replace hS := hS.pk 5
          replace hS := hS.pk 7
          replace hS := hS.pk 7
          exact hj1 (l18769 ++ [x22178]) hF A22182 n22183 c22184 A22207 n22208 c22209 A22211 n22212 c22213 ac w (hA.sub _ rfl) hS
      · refine ef rfl [(29, .int .i64 x21942.f1)] (fun ac hA K hK => ?_) rfl rfl
        refine z_bsl (d := (kI .i64)) (e := 2) (ps := #[(0, .int .i64 x21942.f1)]) (cells := [.int .i64 x21942.f1]) (xs := [x21942.f1]) (fun w => by kernel_rfl) rfl ⟨[.int .i64 x21942.f1], _, rfl, rfl, rfl⟩ hA hS (fun g22214 w hS => ?_) rfl rfl rfl
        refine hK _ [] _ rfl ?_
        refine dEff [0, 6, 11, 12, 13] [5, 14] (by kernel_rfl) ⟨pu rfl rfl [(5, .slice A18770 n18771 c18772)] (fun ac hA => y_move hA rfl rfl) rfl rfl, pu rfl rfl [(6, .slice A18774 n18775 c18776)] (fun ac hA => y_move hA rfl rfl) rfl rfl, pu rfl rfl [(7, .slice A18778 n18779 c18780)] (fun ac hA => y_move hA rfl rfl) rfl rfl, pu rfl rfl [(11, .pointer (some ⟨g21945, 0, none⟩))] (fun ac hA => y_fab fa39_2 hA rfl rfl) rfl rfl, pu rfl rfl [(33, .pointer (some ⟨g21945, 2, none⟩))] (fun ac hA => y_ld Tryd.underlying2 (hS.cell 2 rfl 2 _ rfl) hA rfl rfl rfl) rfl rfl, trivial⟩ (by kernel_rfl) (by kernel_rfl) ⟨?_, ?_, trivial⟩
        · refine ef rfl [(21, .slice A18770 n18771 c18772), (25, .slice (some ⟨g22180, 0, none⟩) 1 1)] (fun ac hA K hK => ?_) rfl rfl
          obtain ⟨h22215, hF⟩ := chk_some hF
          have hr := hS.rd 1 rfl
          refine z_app 4 inf2 Tryd.underlying47 hA hS hr.1 hr.2.1 h22215 rfl (fun A22216 n22217 c22218 w hS => ?_) rfl rfl rfl rfl rfl rfl
          refine hK _ [] _ rfl ?_
          refine dEff [6, 11, 12, 13] [10, 14] (by kernel_rfl) ⟨pu rfl rfl [(6, .slice A18774 n18775 c18776)] (fun ac hA => y_move hA rfl rfl) rfl rfl, pu rfl rfl [(7, .slice A18778 n18779 c18780)] (fun ac hA => y_move hA rfl rfl) rfl rfl, pu rfl rfl [(11, .pointer (some ⟨g21945, 0, none⟩))] (fun ac hA => y_fab fa39_2 hA rfl rfl) rfl rfl, pu rfl rfl [(33, .pointer (some ⟨g21945, 2, none⟩))] (fun ac hA => y_ld Tryd.underlying2 (hS.cell 3 rfl 2 _ rfl) hA rfl rfl rfl) rfl rfl, trivial⟩ (by kernel_rfl) (by kernel_rfl) ⟨?_, ?_, trivial⟩
          · refine ef rfl [(27, .slice A18774 n18775 c18776), (30, .slice (some ⟨g22214, 0, none⟩) 1 1)] (fun ac hA K hK => ?_) rfl rfl
            obtain ⟨h22219, hF⟩ := chk_some hF
            have hr := hS.rd 1 rfl
            refine z_app 5 inf2 Tryd.underlying47 hA hS hr.1 hr.2.1 h22219 rfl (fun A22220 n22221 c22222 w hS => ?_) rfl rfl rfl rfl rfl rfl
            refine hK _ [] _ rfl ?_
            refine dEff [11, 12, 13] [14] (by kernel_rfl) ⟨pu rfl rfl [(7, .slice A18778 n18779 c18780)] (fun ac hA => y_move hA rfl rfl) rfl rfl, pu rfl rfl [(11, .pointer (some ⟨g21945, 0, none⟩))] (fun ac hA => y_fab fa39_2 hA rfl rfl) rfl rfl, pu rfl rfl [(33, .pointer (some ⟨g21945, 2, none⟩))] (fun ac hA => y_ld Tryd.underlying2 (hS.cell 4 rfl 2 _ rfl) hA rfl rfl rfl) rfl rfl, trivial⟩ (by kernel_rfl) (by kernel_rfl) ⟨ef rfl [(34, .int .i64 x21942.f2)] (fun ac hA K hK => ?_) rfl rfl, trivial⟩
            refine z_bsl (d := (kI .i64)) (e := 2) (ps := #[(0, .int .i64 x21942.f2)]) (cells := [.int .i64 x21942.f2]) (xs := [x21942.f2]) (fun w => by kernel_rfl) rfl ⟨[.int .i64 x21942.f2], _, rfl, rfl, rfl⟩ hA hS (fun g22223 w hS => ?_) rfl rfl rfl
            refine hK _ [] _ rfl ?_
            refine dEff [11] [15] (by kernel_rfl) ⟨pu rfl rfl [(7, .slice A18778 n18779 c18780)] (fun ac hA => y_move hA rfl rfl) rfl rfl, trivial⟩ (by kernel_rfl) (by kernel_rfl) ⟨ef rfl [(32, .slice A18778 n18779 c18780), (35, .slice (some ⟨g22223, 0, none⟩) 1 1)] (fun ac hA K hK => ?_) rfl rfl, trivial⟩
            obtain ⟨h22224, hF⟩ := chk_some hF
            have hr := hS.rd 0 rfl
            refine z_app 7 inf2 Tryd.underlying47 hA hS hr.1 hr.2.1 h22224 rfl (fun A22225 n22226 c22227 w hS => ?_) rfl rfl rfl rfl rfl rfl
            refine hK _ [(16, .slice A22216 n22217 c22218), (17, .slice A22220 n22221 c22222), (18, .slice A22225 n22226 c22227)] _ rfl ?_
            refine dEnd [16, 17, 18] (by kernel_rfl) ⟨pu rfl rfl [(26, .slice A22216 n22217 c22218)] (fun ac hA => y_assign hA rfl rfl) rfl rfl, pu rfl rfl [(31, .slice A22220 n22221 c22222)] (fun ac hA => y_assign hA rfl rfl) rfl rfl, pu rfl rfl [(36, .slice A22225 n22226 c22227)] (fun ac hA => y_assign hA rfl rfl) rfl rfl, trivial⟩ ⟨by kernel_rfl, by kernel_rfl⟩ [(0, .slice A0 n0 c0), (5, .slice A22216 n22217 c22218), (6, .slice A22220 n22221 c22222), (7, .slice A22225 n22226 c22227), (8, .slice A18782 n18783 c18784), (9, .slice A18786 n18787 c18788), (11, .pointer (some ⟨g21945, 0, none⟩)), (15, .slice A1 n1 c1), (16, .int .i64 (a1.length : Int)), (17, .int .i64 x18789)] rfl (fun ac hA => ?_)
            replace hS := hS.drop 1
            replace hS := hS.drop 3
            replace hS := hS.drop 3
            replace hS := hS.pk 7
            replace hS := hS.pk 7
            replace hS := hS.pk 7
            replace hS := hS.pk 3
            replace hS := hS.pk 4
            replace hS := hS.pk 5
            replace hS := hS.pk 7
            replace hS := hS.pk 7
            exact hj1 (l18769 ++ [x22178]) hF A22216 n22217 c22218 A22220 n22221 c22222 A22225 n22226 c22227 ac w (hA.sub _ rfl) hS
          · refine ef rfl [(34, .int .i64 x21942.f2)] (fun ac hA K hK => ?_) rfl rfl
            refine z_bsl (d := (kI .i64)) (e := 2) (ps := #[(0, .int .i64 x21942.f2)]) (cells := [.int .i64 x21942.f2]) (xs := [x21942.f2]) (fun w => by kernel_rfl) rfl ⟨[.int .i64 x21942.f2], _, rfl, rfl, rfl⟩ hA hS (fun g22228 w hS => ?_) rfl rfl rfl
            refine hK _ [] _ rfl ?_
            refine dEff [6, 11] [10] (by kernel_rfl) ⟨pu rfl rfl [(6, .slice A18774 n18775 c18776)] (fun ac hA => y_move hA rfl rfl) rfl rfl, pu rfl rfl [(7, .slice A18778 n18779 c18780)] (fun ac hA => y_move hA rfl rfl) rfl rfl, trivial⟩ (by kernel_rfl) (by kernel_rfl) ⟨ef rfl [(27, .slice A18774 n18775 c18776), (30, .slice (some ⟨g22214, 0, none⟩) 1 1)] (fun ac hA K hK => ?_) rfl rfl, trivial⟩
            obtain ⟨h22229, hF⟩ := chk_some hF
            have hr := hS.rd 2 rfl
            refine z_app 6 inf2 Tryd.underlying47 hA hS hr.1 hr.2.1 h22229 rfl (fun A22230 n22231 c22232 w hS => ?_) rfl rfl rfl rfl rfl rfl
            refine hK _ [] _ rfl ?_
            refine dEff [11] [15] (by kernel_rfl) ⟨pu rfl rfl [(7, .slice A18778 n18779 c18780)] (fun ac hA => y_move hA rfl rfl) rfl rfl, trivial⟩ (by kernel_rfl) (by kernel_rfl) ⟨ef rfl [(32, .slice A18778 n18779 c18780), (35, .slice (some ⟨g22228, 0, none⟩) 1 1)] (fun ac hA K hK => ?_) rfl rfl, trivial⟩
            obtain ⟨h22233, hF⟩ := chk_some hF
            have hr := hS.rd 1 rfl
            refine z_app 7 inf2 Tryd.underlying47 hA hS hr.1 hr.2.1 h22233 rfl (fun A22234 n22235 c22236 w hS => ?_) rfl rfl rfl rfl rfl rfl
            refine hK _ [(16, .slice A22216 n22217 c22218), (17, .slice A22230 n22231 c22232), (18, .slice A22234 n22235 c22236)] _ rfl ?_
            refine dEnd [16, 17, 18] (by kernel_rfl) ⟨pu rfl rfl [(26, .slice A22216 n22217 c22218)] (fun ac hA => y_assign hA rfl rfl) rfl rfl, pu rfl rfl [(31, .slice A22230 n22231 c22232)] (fun ac hA => y_assign hA rfl rfl) rfl rfl, pu rfl rfl [(36, .slice A22234 n22235 c22236)] (fun ac hA => y_assign hA rfl rfl) rfl rfl, trivial⟩ ⟨by kernel_rfl, by kernel_rfl⟩ [(0, .slice A0 n0 c0), (5, .slice A22216 n22217 c22218), (6, .slice A22230 n22231 c22232), (7, .slice A22234 n22235 c22236), (8, .slice A18782 n18783 c18784), (9, .slice A18786 n18787 c18788), (11, .pointer (some ⟨g21945, 0, none⟩)), (15, .slice A1 n1 c1), (16, .int .i64 (a1.length : Int)), (17, .int .i64 x18789)] rfl (fun ac hA => ?_)
            replace hS := hS.drop 2
            replace hS := hS.drop 3
            replace hS := hS.drop 3
            replace hS := hS.pk 7
            replace hS := hS.pk 7
            replace hS := hS.pk 7
            replace hS := hS.pk 3
            replace hS := hS.pk 4
            replace hS := hS.pk 5
            replace hS := hS.pk 7
            replace hS := hS.pk 7
            exact hj1 (l18769 ++ [x22178]) hF A22216 n22217 c22218 A22230 n22231 c22232 A22234 n22235 c22236 ac w (hA.sub _ rfl) hS
        · refine ef rfl [(34, .int .i64 x21942.f2)] (fun ac hA K hK => ?_) rfl rfl
          refine z_bsl (d := (kI .i64)) (e := 2) (ps := #[(0, .int .i64 x21942.f2)]) (cells := [.int .i64 x21942.f2]) (xs := [x21942.f2]) (fun w => by kernel_rfl) rfl ⟨[.int .i64 x21942.f2], _, rfl, rfl, rfl⟩ hA hS (fun g22237 w hS => ?_) rfl rfl rfl
          refine hK _ [] _ rfl ?_
          refine dEff [0, 6, 11] [5] (by kernel_rfl) ⟨pu rfl rfl [(5, .slice A18770 n18771 c18772)] (fun ac hA => y_move hA rfl rfl) rfl rfl, pu rfl rfl [(6, .slice A18774 n18775 c18776)] (fun ac hA => y_move hA rfl rfl) rfl rfl, pu rfl rfl [(7, .slice A18778 n18779 c18780)] (fun ac hA => y_move hA rfl rfl) rfl rfl, trivial⟩ (by kernel_rfl) (by kernel_rfl) ⟨ef rfl [(21, .slice A18770 n18771 c18772), (25, .slice (some ⟨g22180, 0, none⟩) 1 1)] (fun ac hA K hK => ?_) rfl rfl, trivial⟩
          obtain ⟨h22238, hF⟩ := chk_some hF
          have hr := hS.rd 2 rfl
          refine z_app 5 inf2 Tryd.underlying47 hA hS hr.1 hr.2.1 h22238 rfl (fun A22239 n22240 c22241 w hS => ?_) rfl rfl rfl rfl rfl rfl
          refine hK _ [] _ rfl ?_
          refine dEff [6, 11] [10] (by kernel_rfl) ⟨pu rfl rfl [(6, .slice A18774 n18775 c18776)] (fun ac hA => y_move hA rfl rfl) rfl rfl, pu rfl rfl [(7, .slice A18778 n18779 c18780)] (fun ac hA => y_move hA rfl rfl) rfl rfl, trivial⟩ (by kernel_rfl) (by kernel_rfl) ⟨ef rfl [(27, .slice A18774 n18775 c18776), (30, .slice (some ⟨g22214, 0, none⟩) 1 1)] (fun ac hA K hK => ?_) rfl rfl, trivial⟩
          obtain ⟨h22242, hF⟩ := chk_some hF
          have hr := hS.rd 2 rfl
          refine z_app 6 inf2 Tryd.underlying47 hA hS hr.1 hr.2.1 h22242 rfl (fun A22243 n22244 c22245 w hS => ?_) rfl rfl rfl rfl rfl rfl
          refine hK _ [] _ rfl ?_
          refine dEff [11] [15] (by kernel_rfl) ⟨pu rfl rfl [(7, .slice A18778 n18779 c18780)] (fun ac hA => y_move hA rfl rfl) rfl rfl, trivial⟩ (by kernel_rfl) (by kernel_rfl) ⟨ef rfl [(32, .slice A18778 n18779 c18780), (35, .slice (some ⟨g22237, 0, none⟩) 1 1)] (fun ac hA K hK => ?_) rfl rfl, trivial⟩
          obtain ⟨h22246, hF⟩ := chk_some hF
          have hr := hS.rd 2 rfl
          refine z_app 7 inf2 Tryd.underlying47 hA hS hr.1 hr.2.1 h22246 rfl (fun A22247 n22248 c22249 w hS => ?_) rfl rfl rfl rfl rfl rfl
          refine hK _ [(16, .slice A22239 n22240 c22241), (17, .slice A22243 n22244 c22245), (18, .slice A22247 n22248 c22249)] _ rfl ?_
          refine dEnd [16, 17, 18] (by kernel_rfl) ⟨pu rfl rfl [(26, .slice A22239 n22240 c22241)] (fun ac hA => y_assign hA rfl rfl) rfl rfl, pu rfl rfl [(31, .slice A22243 n22244 c22245)] (fun ac hA => y_assign hA rfl rfl) rfl rfl, pu rfl rfl [(36, .slice A22247 n22248 c22249)] (fun ac hA => y_assign hA rfl rfl) rfl rfl, trivial⟩ ⟨by kernel_rfl, by kernel_rfl⟩ [(0, .slice A0 n0 c0), (5, .slice A22239 n22240 c22241), (6, .slice A22243 n22244 c22245), (7, .slice A22247 n22248 c22249), (8, .slice A18782 n18783 c18784), (9, .slice A18786 n18787 c18788), (11, .pointer (some ⟨g21945, 0, none⟩)), (15, .slice A1 n1 c1), (16, .int .i64 (a1.length : Int)), (17, .int .i64 x18789)] rfl (fun ac hA => ?_)
          replace hS := hS.drop 3
          replace hS := hS.drop 3
          replace hS := hS.drop 3
          replace hS := hS.pk 7
          replace hS := hS.pk 7
          replace hS := hS.pk 7
          replace hS := hS.pk 3
          replace hS := hS.pk 4
          replace hS := hS.pk 5
          replace hS := hS.pk 7
          replace hS := hS.pk 7
          exact hj1 (l18769 ++ [x22178]) hF A22239 n22240 c22241 A22243 n22244 c22245 A22247 n22248 c22249 ac w (hA.sub _ rfl) hS
      · refine ef rfl [(34, .int .i64 x21942.f2)] (fun ac hA K hK => ?_) rfl rfl
        refine z_bsl (d := (kI .i64)) (e := 2) (ps := #[(0, .int .i64 x21942.f2)]) (cells := [.int .i64 x21942.f2]) (xs := [x21942.f2]) (fun w => by kernel_rfl) rfl ⟨[.int .i64 x21942.f2], _, rfl, rfl, rfl⟩ hA hS (fun g22250 w hS => ?_) rfl rfl rfl
        refine hK _ [] _ rfl ?_
        refine dEff [0, 6, 7, 8, 11] [5, 9] (by kernel_rfl) ⟨pu rfl rfl [(5, .slice A18770 n18771 c18772)] (fun ac hA => y_move hA rfl rfl) rfl rfl, pu rfl rfl [(6, .slice A18774 n18775 c18776)] (fun ac hA => y_move hA rfl rfl) rfl rfl, pu rfl rfl [(11, .pointer (some ⟨g21945, 0, none⟩))] (fun ac hA => y_fab fa39_1 hA rfl rfl) rfl rfl, pu rfl rfl [(28, .pointer (some ⟨g21945, 1, none⟩))] (fun ac hA => y_ld Tryd.underlying3 (hS.cell 2 rfl 1 _ rfl) hA rfl rfl rfl) rfl rfl, pu rfl rfl [(7, .slice A18778 n18779 c18780)] (fun ac hA => y_move hA rfl rfl) rfl rfl, trivial⟩ (by kernel_rfl) (by kernel_rfl) ⟨?_, ?_, trivial⟩
        · refine ef rfl [(21, .slice A18770 n18771 c18772), (25, .slice (some ⟨g22180, 0, none⟩) 1 1)] (fun ac hA K hK => ?_) rfl rfl
          obtain ⟨h22251, hF⟩ := chk_some hF
          have hr := hS.rd 1 rfl
          refine z_app 4 inf2 Tryd.underlying47 hA hS hr.1 hr.2.1 h22251 rfl (fun A22252 n22253 c22254 w hS => ?_) rfl rfl rfl rfl rfl rfl
          refine hK _ [] _ rfl ?_
          refine dEff [6, 7, 8, 11] [9] (by kernel_rfl) ⟨pu rfl rfl [(6, .slice A18774 n18775 c18776)] (fun ac hA => y_move hA rfl rfl) rfl rfl, pu rfl rfl [(11, .pointer (some ⟨g21945, 0, none⟩))] (fun ac hA => y_fab fa39_1 hA rfl rfl) rfl rfl, pu rfl rfl [(28, .pointer (some ⟨g21945, 1, none⟩))] (fun ac hA => y_ld Tryd.underlying3 (hS.cell 3 rfl 1 _ rfl) hA rfl rfl rfl) rfl rfl, pu rfl rfl [(7, .slice A18778 n18779 c18780)] (fun ac hA => y_move hA rfl rfl) rfl rfl, trivial⟩ (by kernel_rfl) (by kernel_rfl) ⟨ef rfl [(29, .int .i64 x21942.f1)] (fun ac hA K hK => ?_) rfl rfl, trivial⟩
          refine z_bsl (d := (kI .i64)) (e := 2) (ps := #[(0, .int .i64 x21942.f1)]) (cells := [.int .i64 x21942.f1]) (xs := [x21942.f1]) (fun w => by kernel_rfl) rfl ⟨[.int .i64 x21942.f1], _, rfl, rfl, rfl⟩ hA hS (fun g22255 w hS => ?_) rfl rfl rfl
          refine hK _ [] _ rfl ?_
          refine dEff [6, 11] [10] (by kernel_rfl) ⟨pu rfl rfl [(6, .slice A18774 n18775 c18776)] (fun ac hA => y_move hA rfl rfl) rfl rfl, pu rfl rfl [(7, .slice A18778 n18779 c18780)] (fun ac hA => y_move hA rfl rfl) rfl rfl, trivial⟩ (by kernel_rfl) (by kernel_rfl) ⟨ef rfl [(27, .slice A18774 n18775 c18776), (30, .slice (some ⟨g22255, 0, none⟩) 1 1)] (fun ac hA K hK => ?_) rfl rfl, trivial⟩
          obtain ⟨h22256, hF⟩ := chk_some hF
          have hr := hS.rd 0 rfl
          refine z_app 6 inf2 Tryd.underlying47 hA hS hr.1 hr.2.1 h22256 rfl (fun A22257 n22258 c22259 w hS => ?_) rfl rfl rfl rfl rfl rfl
          refine hK _ [] _ rfl ?_
          refine dEff [11] [15] (by kernel_rfl) ⟨pu rfl rfl [(7, .slice A18778 n18779 c18780)] (fun ac hA => y_move hA rfl rfl) rfl rfl, trivial⟩ (by kernel_rfl) (by kernel_rfl) ⟨ef rfl [(32, .slice A18778 n18779 c18780), (35, .slice (some ⟨g22250, 0, none⟩) 1 1)] (fun ac hA K hK => ?_) rfl rfl, trivial⟩
          obtain ⟨h22260, hF⟩ := chk_some hF
          have hr := hS.rd 3 rfl
          refine z_app 7 inf2 Tryd.underlying47 hA hS hr.1 hr.2.1 h22260 rfl (fun A22261 n22262 c22263 w hS => ?_) rfl rfl rfl rfl rfl rfl
          refine hK _ [(16, .slice A22252 n22253 c22254), (17, .slice A22257 n22258 c22259), (18, .slice A22261 n22262 c22263)] _ rfl ?_
          refine dEnd [16, 17, 18] (by kernel_rfl) ⟨pu rfl rfl [(26, .slice A22252 n22253 c22254)] (fun ac hA => y_assign hA rfl rfl) rfl rfl, pu rfl rfl [(31, .slice A22257 n22258 c22259)] (fun ac hA => y_assign hA rfl rfl) rfl rfl, pu rfl rfl [(36, .slice A22261 n22262 c22263)] (fun ac hA => y_assign hA rfl rfl) rfl rfl, trivial⟩ ⟨by kernel_rfl, by kernel_rfl⟩ [(0, .slice A0 n0 c0), (5, .slice A22252 n22253 c22254), (6, .slice A22257 n22258 c22259), (7, .slice A22261 n22262 c22263), (8, .slice A18782 n18783 c18784), (9, .slice A18786 n18787 c18788), (11, .pointer (some ⟨g21945, 0, none⟩)), (15, .slice A1 n1 c1), (16, .int .i64 (a1.length : Int)), (17, .int .i64 x18789)] rfl (fun ac hA => ?_)
          replace hS := hS.drop 2
          replace hS := hS.drop 3
          replace hS := hS.drop 3
          replace hS := hS.pk 7
          replace hS := hS.pk 7
          replace hS := hS.pk 7
          replace hS := hS.pk 3
          replace hS := hS.pk 4
          replace hS := hS.pk 5
          replace hS := hS.pk 7
          replace hS := hS.pk 7
          exact hj1 (l18769 ++ [x22178]) hF A22252 n22253 c22254 A22257 n22258 c22259 A22261 n22262 c22263 ac w (hA.sub _ rfl) hS
        · refine ef rfl [(29, .int .i64 x21942.f1)] (fun ac hA K hK => ?_) rfl rfl
          refine z_bsl (d := (kI .i64)) (e := 2) (ps := #[(0, .int .i64 x21942.f1)]) (cells := [.int .i64 x21942.f1]) (xs := [x21942.f1]) (fun w => by kernel_rfl) rfl ⟨[.int .i64 x21942.f1], _, rfl, rfl, rfl⟩ hA hS (fun g22264 w hS => ?_) rfl rfl rfl
          refine hK _ [] _ rfl ?_
          refine dEff [0, 6, 11] [5] (by kernel_rfl) ⟨pu rfl rfl [(5, .slice A18770 n18771 c18772)] (fun ac hA => y_move hA rfl rfl) rfl rfl, pu rfl rfl [(6, .slice A18774 n18775 c18776)] (fun ac hA => y_move hA rfl rfl) rfl rfl, pu rfl rfl [(7, .slice A18778 n18779 c18780)] (fun ac hA => y_move hA rfl rfl) rfl rfl, trivial⟩ (by kernel_rfl) (by kernel_rfl) ⟨ef rfl [(21, .slice A18770 n18771 c18772), (25, .slice (some ⟨g22180, 0, none⟩) 1 1)] (fun ac hA K hK => ?_) rfl rfl, trivial⟩
          obtain ⟨h22265, hF⟩ := chk_some hF
          have hr := hS.rd 2 rfl
          refine z_app 5 inf2 Tryd.underlying47 hA hS hr.1 hr.2.1 h22265 rfl (fun A22266 n22267 c22268 w hS => ?_) rfl rfl rfl rfl rfl rfl
          refine hK _ [] _ rfl ?_
          refine dEff [6, 11] [10] (by kernel_rfl) ⟨pu rfl rfl [(6, .slice A18774 n18775 c18776)] (fun ac hA => y_move hA rfl rfl) rfl rfl, pu rfl rfl [(7, .slice A18778 n18779 c18780)] (fun ac hA => y_move hA rfl rfl) rfl rfl, trivial⟩ (by kernel_rfl) (by kernel_rfl) ⟨ef rfl [(27, .slice A18774 n18775 c18776), (30, .slice (some ⟨g22264, 0, none⟩) 1 1)] (fun ac hA K hK => ?_) rfl rfl, trivial⟩
          obtain ⟨h22269, hF⟩ := chk_some hF
          have hr := hS.rd 1 rfl
          refine z_app 6 inf2 Tryd.underlying47 hA hS hr.1 hr.2.1 h22269 rfl (fun A22270 n22271 c22272 w hS => ?_) rfl rfl rfl rfl rfl rfl
          refine hK _ [] _ rfl ?_
          refine dEff [11] [15] (by kernel_rfl) ⟨pu rfl rfl [(7, .slice A18778 n18779 c18780)] (fun ac hA => y_move hA rfl rfl) rfl rfl, trivial⟩ (by kernel_rfl) (by kernel_rfl) ⟨ef rfl [(32, .slice A18778 n18779 c18780), (35, .slice (some ⟨g22250, 0, none⟩) 1 1)] (fun ac hA K hK => ?_) rfl rfl, trivial⟩
          obtain ⟨h22273, hF⟩ := chk_some hF
          have hr := hS.rd 3 rfl
          refine z_app 7 inf2 Tryd.underlying47 hA hS hr.1 hr.2.1 h22273 rfl (fun A22274 n22275 c22276 w hS => ?_) rfl rfl rfl rfl rfl rfl
          refine hK _ [(16, .slice A22266 n22267 c22268), (17, .slice A22270 n22271 c22272), (18, .slice A22274 n22275 c22276)] _ rfl ?_
          refine dEnd [16, 17, 18] (by kernel_rfl) ⟨pu rfl rfl [(26, .slice A22266 n22267 c22268)] (fun ac hA => y_assign hA rfl rfl) rfl rfl, pu rfl rfl [(31, .slice A22270 n22271 c22272)] (fun ac hA => y_assign hA rfl rfl) rfl rfl, pu rfl rfl [(36, .slice A22274 n22275 c22276)] (fun ac hA => y_assign hA rfl rfl) rfl rfl, trivial⟩ ⟨by kernel_rfl, by kernel_rfl⟩ [(0, .slice A0 n0 c0), (5, .slice A22266 n22267 c22268), (6, .slice A22270 n22271 c22272), (7, .slice A22274 n22275 c22276), (8, .slice A18782 n18783 c18784), (9, .slice A18786 n18787 c18788), (11, .pointer (some ⟨g21945, 0, none⟩)), (15, .slice A1 n1 c1), (16, .int .i64 (a1.length : Int)), (17, .int .i64 x18789)] rfl (fun ac hA => ?_)
          replace hS := hS.drop 3
          replace hS := hS.drop 3
          replace hS := hS.drop 3
          replace hS := hS.pk 7
          replace hS := hS.pk 7
          replace hS := hS.pk 7
          replace hS := hS.pk 3
          replace hS := hS.pk 4
          replace hS := hS.pk 5
          replace hS := hS.pk 7
          replace hS := hS.pk 7
          exact hj1 (l18769 ++ [x22178]) hF A22266 n22267 c22268 A22270 n22271 c22272 A22274 n22275 c22276 ac w (hA.sub _ rfl) hS
    · refine ef rfl [(29, .int .i64 x21942.f1)] (fun ac hA K hK => ?_) rfl rfl
      refine z_bsl (d := (kI .i64)) (e := 2) (ps := #[(0, .int .i64 x21942.f1)]) (cells := [.int .i64 x21942.f1]) (xs := [x21942.f1]) (fun w => by kernel_rfl) rfl ⟨[.int .i64 x21942.f1], _, rfl, rfl, rfl⟩ hA hS (fun g22277 w hS => ?_) rfl rfl rfl
      refine hK _ [] _ rfl ?_
      refine dEff [0, 1, 2, 3, 6, 11, 12, 13] [4, 14] (by kernel_rfl) ⟨pu rfl rfl [(5, .slice A18770 n18771 c18772)] (fun ac hA => y_move hA rfl rfl) rfl rfl, pu rfl rfl [(11, .pointer (some ⟨g21945, 0, none⟩))] (fun ac hA => y_fab fa39_0 hA rfl rfl) rfl rfl, pu rfl rfl [(22, .pointer (some ⟨g21945, 0, none⟩))] (fun ac hA => y_ld Tryd.underlying36 (hS.cell 1 rfl 0 _ rfl) hA rfl rfl rfl) rfl rfl, pu rfl rfl [(23, .int .u64 x21942.f0)] (fun ac hA => (rv_i h22179 (r_convI Tryd.underlying36 Tryd.underlying2 rfl (hA.ev rfl)) : RunV _ _ _ _ (.int .i64 x22178))) rfl rfl, pu rfl rfl [(6, .slice A18774 n18775 c18776)] (fun ac hA => y_move hA rfl rfl) rfl rfl, pu rfl rfl [(7, .slice A18778 n18779 c18780)] (fun ac hA => y_move hA rfl rfl) rfl rfl, pu rfl rfl [(11, .pointer (some ⟨g21945, 0, none⟩))] (fun ac hA => y_fab fa39_2 hA rfl rfl) rfl rfl, pu rfl rfl [(33, .pointer (some ⟨g21945, 2, none⟩))] (fun ac hA => y_ld Tryd.underlying2 (hS.cell 1 rfl 2 _ rfl) hA rfl rfl rfl) rfl rfl, trivial⟩ (by kernel_rfl) (by kernel_rfl) ⟨?_, ?_, trivial⟩
      · refine ef rfl [(24, .int .i64 x22178)] (fun ac hA K hK => ?_) rfl rfl
        refine z_bsl (d := (kI .i64)) (e := 2) (ps := #[(0, .int .i64 x22178)]) (cells := [.int .i64 x22178]) (xs := [x22178]) (fun w => by kernel_rfl) rfl ⟨[.int .i64 x22178], _, rfl, rfl, rfl⟩ hA hS (fun g22278 w hS => ?_) rfl rfl rfl
        refine hK _ [] _ rfl ?_
        refine dEff [0, 6, 11, 12, 13] [5, 14] (by kernel_rfl) ⟨pu rfl rfl [(5, .slice A18770 n18771 c18772)] (fun ac hA => y_move hA rfl rfl) rfl rfl, pu rfl rfl [(6, .slice A18774 n18775 c18776)] (fun ac hA => y_move hA rfl rfl) rfl rfl, pu rfl rfl [(7, .slice A18778 n18779 c18780)] (fun ac hA => y_move hA rfl rfl) rfl rfl, pu rfl rfl [(11, .pointer (some ⟨g21945, 0, none⟩))] (fun ac hA => y_fab fa39_2 hA rfl rfl) rfl rfl, pu rfl rfl [(33, .pointer (some ⟨g21945, 2, none⟩))] (fun ac hA => y_ld Tryd.underlying2 (hS.cell 2 rfl 2 _ rfl) hA rfl rfl rfl) rfl rfl, trivial⟩ (by kernel_rfl) (by kernel_rfl) ⟨?_, ?_, trivial⟩
        · refine ef rfl [(21, .slice A18770 n18771 c18772), (25, .slice (some ⟨g22278, 0, none⟩) 1 1)] (fun ac hA K hK => ?_) rfl rfl
          obtain ⟨h22279, hF⟩ := chk_some hF
          have hr := hS.rd 0 rfl
          refine z_app 4 inf2 Tryd.underlying47 hA hS hr.1 hr.2.1 h22279 rfl (fun A22280 n22281 c22282 w hS => ?_) rfl rfl rfl rfl rfl rfl
          refine hK _ [] _ rfl ?_
          refine dEff [6, 11, 12, 13] [10, 14] (by kernel_rfl) ⟨pu rfl rfl [(6, .slice A18774 n18775 c18776)] (fun ac hA => y_move hA rfl rfl) rfl rfl, pu rfl rfl [(7, .slice A18778 n18779 c18780)] (fun ac hA => y_move hA rfl rfl) rfl rfl, pu rfl rfl [(11, .pointer (some ⟨g21945, 0, none⟩))] (fun ac hA => y_fab fa39_2 hA rfl rfl) rfl rfl, pu rfl rfl [(33, .pointer (some ⟨g21945, 2, none⟩))] (fun ac hA => y_ld Tryd.underlying2 (hS.cell 3 rfl 2 _ rfl) hA rfl rfl rfl) rfl rfl, trivial⟩ (by kernel_rfl) (by kernel_rfl) ⟨?_, ?_, trivial⟩
          · refine ef rfl [(27, .slice A18774 n18775 c18776), (30, .slice (some ⟨g22277, 0, none⟩) 1 1)] (fun ac hA K hK => ?_) rfl rfl
            obtain ⟨h22283, hF⟩ := chk_some hF
            have hr := hS.rd 2 rfl
            refine z_app 5 inf2 Tryd.underlying47 hA hS hr.1 hr.2.1 h22283 rfl (fun A22284 n22285 c22286 w hS => ?_) rfl rfl rfl rfl rfl rfl
            refine hK _ [] _ rfl ?_
            refine dEff [11, 12, 13] [14] (by kernel_rfl) ⟨pu rfl rfl [(7, .slice A18778 n18779 c18780)] (fun ac hA => y_move hA rfl rfl) rfl rfl, pu rfl rfl [(11, .pointer (some ⟨g21945, 0, none⟩))] (fun ac hA => y_fab fa39_2 hA rfl rfl) rfl rfl, pu rfl rfl [(33, .pointer (some ⟨g21945, 2, none⟩))] (fun ac hA => y_ld Tryd.underlying2 (hS.cell 4 rfl 2 _ rfl) hA rfl rfl rfl) rfl rfl, trivial⟩ (by kernel_rfl) (by kernel_rfl) ⟨ef rfl [(34, .int .i64 x21942.f2)] (fun ac hA K hK => ?_) rfl rfl, trivial⟩
            refine z_bsl (d := (kI .i64)) (e := 2) (ps := #[(0, .int .i64 x21942.f2)]) (cells := [.int .i64 x21942.f2]) (xs := [x21942.f2]) (fun w => by kernel_rfl) rfl ⟨[.int .i64 x21942.f2], _, rfl, rfl, rfl⟩ hA hS (fun g22287 w hS => ?_) rfl rfl rfl
            refine hK _ [] _ rfl ?_
            refine dEff [11] [15] (by kernel_rfl) ⟨pu rfl rfl [(7, .slice A18778 n18779 c18780)] (fun ac hA => y_move hA rfl rfl) rfl rfl, trivial⟩ (by kernel_rfl) (by kernel_rfl) ⟨ef rfl [(32, .slice A18778 n18779 c18780), (35, .slice (some ⟨g22287, 0, none⟩) 1 1)] (fun ac hA K hK => ?_) rfl rfl, trivial⟩
            obtain ⟨h22288, hF⟩ := chk_some hF
            have hr := hS.rd 0 rfl
            refine z_app 7 inf2 Tryd.underlying47 hA hS hr.1 hr.2.1 h22288 rfl (fun A22289 n22290 c22291 w hS => ?_) rfl rfl rfl rfl rfl rfl
            refine hK _ [(16, .slice A22280 n22281 c22282), (17, .slice A22284 n22285 c22286), (18, .slice A22289 n22290 c22291)] _ rfl ?_
            refine dEnd [16, 17, 18] (by kernel_rfl) ⟨pu rfl rfl [(26, .slice A22280 n22281 c22282)] (fun ac hA => y_assign hA rfl rfl) rfl rfl, pu rfl rfl [(31, .slice A22284 n22285 c22286)] (fun ac hA => y_assign hA rfl rfl) rfl rfl, pu rfl rfl [(36, .slice A22289 n22290 c22291)] (fun ac hA => y_assign hA rfl rfl) rfl rfl, trivial⟩ ⟨by kernel_rfl, by kernel_rfl⟩ [(0, .slice A0 n0 c0), (5, .slice A22280 n22281 c22282), (6, .slice A22284 n22285 c22286), (7, .slice A22289 n22290 c22291), (8, .slice A18782 n18783 c18784), (9, .slice A18786 n18787 c18788), (11, .pointer (some ⟨g21945, 0, none⟩)), (15, .slice A1 n1 c1), (16, .int .i64 (a1.length : Int)), (17, .int .i64 x18789)] rfl (fun ac hA => ?_)
            replace hS := hS.drop 1
            replace hS := hS.drop 3
            replace hS := hS.drop 3
            replace hS := hS.pk 7
            replace hS := hS.pk 7
            replace hS := hS.pk 7
            replace hS := hS.pk 3
            replace hS := hS.pk 4
            replace hS := hS.pk 5
            replace hS := hS.pk 7
            replace hS := hS.pk 7
            exact hj1 (l18769 ++ [x22178]) hF A22280 n22281 c22282 A22284 n22285 c22286 A22289 n22290 c22291 ac w (hA.sub _ rfl) hS
          · refine ef rfl [(34, .int .i64 x21942.f2)] (fun ac hA K hK => ?_) rfl rfl
            refine z_bsl (d := (kI .i64)) (e := 2) (ps := #[(0, .int .i64 x21942.f2)]) (cells := [.int .i64 x21942.f2]) (xs := [x21942.f2]) (fun w => by kernel_rfl) rfl ⟨[.int .i64 x21942.f2], _, rfl, rfl, rfl⟩ hA hS (fun g22292 w hS => ?_) rfl rfl rfl
            refine hK _ [] _ rfl ?_
            refine dEff [6, 11] [10] (by kernel_rfl) ⟨pu rfl rfl [(6, .slice A18774 n18775 c18776)] (fun ac hA => y_move hA rfl rfl) rfl rfl, pu rfl rfl [(7, .slice A18778 n18779 c18780)] (fun ac hA => y_move hA rfl rfl) rfl rfl, trivial⟩ (by kernel_rfl) (by kernel_rfl) ⟨ef rfl [(27, .slice A18774 n18775 c18776), (30, .slice (some ⟨g22277, 0, none⟩) 1 1)] (fun ac hA K hK => ?_) rfl rfl, trivial⟩
            obtain ⟨h22293, hF⟩ := chk_some hF
            have hr := hS.rd 3 rfl
            refine z_app 6 inf2 Tryd.underlying47 hA hS hr.1 hr.2.1 h22293 rfl (fun A22294 n22295 c22296 w hS => ?_) rfl rfl rfl rfl rfl rfl
            refine hK _ [] _ rfl ?_
            refine dEff [11] [15] (by kernel_rfl) ⟨pu rfl rfl [(7, .slice A18778 n18779 c18780)] (fun ac hA => y_move hA rfl rfl) rfl rfl, trivial⟩ (by kernel_rfl) (by kernel_rfl) ⟨ef rfl [(32, .slice A18778 n18779 c18780), (35, .slice (some ⟨g22292, 0, none⟩) 1 1)] (fun ac hA K hK => ?_) rfl rfl, trivial⟩
            obtain ⟨h22297, hF⟩ := chk_some hF
            have hr := hS.rd 1 rfl
            refine z_app 7 inf2 Tryd.underlying47 hA hS hr.1 hr.2.1 h22297 rfl (fun A22298 n22299 c22300 w hS => ?_) rfl rfl rfl rfl rfl rfl
            refine hK _ [(16, .slice A22280 n22281 c22282), (17, .slice A22294 n22295 c22296), (18, .slice A22298 n22299 c22300)] _ rfl ?_
            refine dEnd [16, 17, 18] (by kernel_rfl) ⟨pu rfl rfl [(26, .slice A22280 n22281 c22282)] (fun ac hA => y_assign hA rfl rfl) rfl rfl, pu rfl rfl [(31, .slice A22294 n22295 c22296)] (fun ac hA => y_assign hA rfl rfl) rfl rfl, pu rfl rfl [(36, .slice A22298 n22299 c22300)] (fun ac hA => y_assign hA rfl rfl) rfl rfl, trivial⟩ ⟨by kernel_rfl, by kernel_rfl⟩ [(0, .slice A0 n0 c0), (5, .slice A22280 n22281 c22282), (6, .slice A22294 n22295 c22296), (7, .slice A22298 n22299 c22300), (8, .slice A18782 n18783 c18784), (9, .slice A18786 n18787 c18788), (11, .pointer (some ⟨g21945, 0, none⟩)), (15, .slice A1 n1 c1), (16, .int .i64 (a1.length : Int)), (17, .int .i64 x18789)] rfl (fun ac hA => ?_)
            replace hS := hS.drop 2
            replace hS := hS.drop 3
            replace hS := hS.drop 3
            replace hS := hS.pk 7
            replace hS := hS.pk 7
            replace hS := hS.pk 7
            replace hS := hS.pk 3
            replace hS := hS.pk 4
            replace hS := hS.pk 5
            replace hS := hS.pk 7
            replace hS := hS.pk 7
            exact hj1 (l18769 ++ [x22178]) hF A22280 n22281 c22282 A22294 n22295 c22296 A22298 n22299 c22300 ac w (hA.sub _ rfl) hS
        · refine ef rfl [(34, .int .i64 x21942.f2)] (fun ac hA K hK => ?_) rfl rfl
          refine z_bsl (d := (kI .i64)) (e := 2) (ps := #[(0, .int .i64 x21942.f2)]) (cells := [.int .i64 x21942.f2]) (xs := [x21942.f2]) (fun w => by kernel_rfl) rfl ⟨[.int .i64 x21942.f2], _, rfl, rfl, rfl⟩ hA hS (fun g22301 w hS => ?_) rfl rfl rfl
          refine hK _ [] _ rfl ?_
          refine dEff [0, 6, 11] [5] (by kernel_rfl) ⟨pu rfl rfl [(5, .slice A18770 n18771 c18772)] (fun ac hA => y_move hA rfl rfl) rfl rfl, pu rfl rfl [(6, .slice A18774 n18775 c18776)] (fun ac hA => y_move hA rfl rfl) rfl rfl, pu rfl rfl [(7, .slice A18778 n18779 c18780)] (fun ac hA => y_move hA rfl rfl) rfl rfl, trivial⟩ (by kernel_rfl) (by kernel_rfl) ⟨ef rfl [(21, .slice A18770 n18771 c18772), (25, .slice (some ⟨g22278, 0, none⟩) 1 1)] (fun ac hA K hK => ?_) rfl rfl, trivial⟩
          obtain ⟨h22302, hF⟩ := chk_some hF
          have hr := hS.rd 1 rfl
          refine z_app 5 inf2 Tryd.underlying47 hA hS hr.1 hr.2.1 h22302 rfl (fun A22303 n22304 c22305 w hS => ?_) rfl rfl rfl rfl rfl rfl
          refine hK _ [] _ rfl ?_
          refine dEff [6, 11] [10] (by kernel_rfl) ⟨pu rfl rfl [(6, .slice A18774 n18775 c18776)] (fun ac hA => y_move hA rfl rfl) rfl rfl, pu rfl rfl [(7, .slice A18778 n18779 c18780)] (fun ac hA => y_move hA rfl rfl) rfl rfl, trivial⟩ (by kernel_rfl) (by kernel_rfl) ⟨ef rfl [(27, .slice A18774 n18775 c18776), (30, .slice (some ⟨g22277, 0, none⟩) 1 1)] (fun ac hA K hK => ?_) rfl rfl, trivial⟩
          obtain ⟨h22306, hF⟩ := chk_some hF
          have hr := hS.rd 3 rfl
          refine z_app 6 inf2 Tryd.underlying47 hA hS hr.1 hr.2.1 h22306 rfl (fun A22307 n22308 c22309 w hS => ?_) rfl rfl rfl rfl rfl rfl
          refine hK _ [] _ rfl ?_
          refine dEff [11] [15] (by kernel_rfl) ⟨pu rfl rfl [(7, .slice A18778 n18779 c18780)] (fun ac hA => y_move hA rfl rfl) rfl rfl, trivial⟩ (by kernel_rfl) (by kernel_rfl) ⟨ef rfl [(32, .slice A18778 n18779 c18780), (35, .slice (some ⟨g22301, 0, none⟩) 1 1)] (fun ac hA K hK => ?_) rfl rfl, trivial⟩
          obtain ⟨h22310, hF⟩ := chk_some hF
          have hr := hS.rd 2 rfl
          refine z_app 7 inf2 Tryd.underlying47 hA hS hr.1 hr.2.1 h22310 rfl (fun A22311 n22312 c22313 w hS => ?_) rfl rfl rfl rfl rfl rfl
          refine hK _ [(16, .slice A22303 n22304 c22305), (17, .slice A22307 n22308 c22309), (18, .slice A22311 n22312 c22313)] _ rfl ?_
          refine dEnd [16, 17, 18] (by kernel_rfl) ⟨pu rfl rfl [(26, .slice A22303 n22304 c22305)] (fun ac hA => y_assign hA rfl rfl) rfl rfl, pu rfl rfl [(31, .slice A22307 n22308 c22309)] (fun ac hA => y_assign hA rfl rfl) rfl rfl, pu rfl rfl [(36, .slice A22311 n22312 c22313)] (fun ac hA => y_assign hA rfl rfl) rfl rfl, trivial⟩ ⟨by kernel_rfl, by kernel_rfl⟩ [(0, .slice A0 n0 c0), (5, .slice A22303 n22304 c22305), (6, .slice A22307 n22308 c22309), (7, .slice A22311 n22312 c22313), (8, .slice A18782 n18783 c18784), (9, .slice A18786 n18787 c18788), (11, .pointer (some ⟨g21945, 0, none⟩)), (15, .slice A1 n1 c1), (16, .int .i64 (a1.length : Int)), (17, .int .i64 x18789)] rfl (fun ac hA => ?_)
          replace hS := hS.drop 3
          replace hS := hS.drop 3
          replace hS := hS.drop 3
          replace hS := hS.pk 7
          replace hS := hS.pk 7
          replace hS := hS.pk 7
          replace hS := hS.pk 3
          replace hS := hS.pk 4
          replace hS := hS.pk 5
          replace hS := hS.pk 7
          replace hS := hS.pk 7
          exact hj1 (l18769 ++ [x22178]) hF A22303 n22304 c22305 A22307 n22308 c22309 A22311 n22312 c22313 ac w (hA.sub _ rfl) hS
      · refine ef rfl [(34, .int .i64 x21942.f2)] (fun ac hA K hK => ?_) rfl rfl
        refine z_bsl (d := (kI .i64)) (e := 2) (ps := #[(0, .int .i64 x21942.f2)]) (cells := [.int .i64 x21942.f2]) (xs := [x21942.f2]) (fun w => by kernel_rfl) rfl ⟨[.int .i64 x21942.f2], _, rfl, rfl, rfl⟩ hA hS (fun g22314 w hS => ?_) rfl rfl rfl
        refine hK _ [] _ rfl ?_
        refine dEff [0, 1, 2, 3, 6, 11] [4] (by kernel_rfl) ⟨pu rfl rfl [(5, .slice A18770 n18771 c18772)] (fun ac hA => y_move hA rfl rfl) rfl rfl, pu rfl rfl [(11, .pointer (some ⟨g21945, 0, none⟩))] (fun ac hA => y_fab fa39_0 hA rfl rfl) rfl rfl, pu rfl rfl [(22, .pointer (some ⟨g21945, 0, none⟩))] (fun ac hA => y_ld Tryd.underlying36 (hS.cell 2 rfl 0 _ rfl) hA rfl rfl rfl) rfl rfl, pu rfl rfl [(23, .int .u64 x21942.f0)] (fun ac hA => (rv_i h22179 (r_convI Tryd.underlying36 Tryd.underlying2 rfl (hA.ev rfl)) : RunV _ _ _ _ (.int .i64 x22178))) rfl rfl, pu rfl rfl [(6, .slice A18774 n18775 c18776)] (fun ac hA => y_move hA rfl rfl) rfl rfl, pu rfl rfl [(7, .slice A18778 n18779 c18780)] (fun ac hA => y_move hA rfl rfl) rfl rfl, trivial⟩ (by kernel_rfl) (by kernel_rfl) ⟨ef rfl [(24, .int .i64 x22178)] (fun ac hA K hK => ?_) rfl rfl, trivial⟩
        refine z_bsl (d := (kI .i64)) (e := 2) (ps := #[(0, .int .i64 x22178)]) (cells := [.int .i64 x22178]) (xs := [x22178]) (fun w => by kernel_rfl) rfl ⟨[.int .i64 x22178], _, rfl, rfl, rfl⟩ hA hS (fun g22315 w hS => ?_) rfl rfl rfl
        refine hK _ [] _ rfl ?_
        refine dEff [0, 6, 11] [5] (by kernel_rfl) ⟨pu rfl rfl [(5, .slice A18770 n18771 c18772)] (fun ac hA => y_move hA rfl rfl) rfl rfl, pu rfl rfl [(6, .slice A18774 n18775 c18776)] (fun ac hA => y_move hA rfl rfl) rfl rfl, pu rfl rfl [(7, .slice A18778 n18779 c18780)] (fun ac hA => y_move hA rfl rfl) rfl rfl, trivial⟩ (by kernel_rfl) (by kernel_rfl) ⟨ef rfl [(21, .slice A18770 n18771 c18772), (25, .slice (some ⟨g22315, 0, none⟩) 1 1)] (fun ac hA K hK => ?_) rfl rfl, trivial⟩
        obtain ⟨h22316, hF⟩ := chk_some hF
        have hr := hS.rd 0 rfl
        refine z_app 5 inf2 Tryd.underlying47 hA hS hr.1 hr.2.1 h22316 rfl (fun A22317 n22318 c22319 w hS => ?_) rfl rfl rfl rfl rfl rfl
        refine hK _ [] _ rfl ?_
        refine dEff [6, 11] [10] (by kernel_rfl) ⟨pu rfl rfl [(6, .slice A18774 n18775 c18776)] (fun ac hA => y_move hA rfl rfl) rfl rfl, pu rfl rfl [(7, .slice A18778 n18779 c18780)] (fun ac hA => y_move hA rfl rfl) rfl rfl, trivial⟩ (by kernel_rfl) (by kernel_rfl) ⟨ef rfl [(27, .slice A18774 n18775 c18776), (30, .slice (some ⟨g22277, 0, none⟩) 1 1)] (fun ac hA K hK => ?_) rfl rfl, trivial⟩
        obtain ⟨h22320, hF⟩ := chk_some hF
        have hr := hS.rd 3 rfl
        refine z_app 6 inf2 Tryd.underlying47 hA hS hr.1 hr.2.1 h22320 rfl (fun A22321 n22322 c22323 w hS => ?_) rfl rfl rfl rfl rfl rfl
        refine hK _ [] _ rfl ?_
        refine dEff [11] [15] (by kernel_rfl) ⟨pu rfl rfl [(7, .slice A18778 n18779 c18780)] (fun ac hA => y_move hA rfl rfl) rfl rfl, trivial⟩ (by kernel_rfl) (by kernel_rfl) ⟨ef rfl [(32, .slice A18778 n18779 c18780), (35, .slice (some ⟨g22314, 0, none⟩) 1 1)] (fun ac hA K hK => ?_) rfl rfl, trivial⟩
        obtain ⟨h22324, hF⟩ := chk_some hF
        have hr := hS.rd 3 rfl
        refine z_app 7 inf2 Tryd.underlying47 hA hS hr.1 hr.2.1 h22324 rfl (fun A22325 n22326 c22327 w hS => ?_) rfl rfl rfl rfl rfl rfl
        refine hK _ [(16, .slice A22317 n22318 c22319), (17, .slice A22321 n22322 c22323), (18, .slice A22325 n22326 c22327)] _ rfl ?_
        refine dEnd [16, 17, 18] (by kernel_rfl) ⟨pu rfl rfl [(26, .slice A22317 n22318 c22319)] (fun ac hA => y_assign hA rfl rfl) rfl rfl, pu rfl rfl [(31, .slice A22321 n22322 c22323)] (fun ac hA => y_assign hA rfl rfl) rfl rfl, pu rfl rfl [(36, .slice A22325 n22326 c22327)] (fun ac hA => y_assign hA rfl rfl) rfl rfl, trivial⟩ ⟨by kernel_rfl, by kernel_rfl⟩ [(0, .slice A0 n0 c0), (5, .slice A22317 n22318 c22319), (6, .slice A22321 n22322 c22323), (7, .slice A22325 n22326 c22327), (8, .slice A18782 n18783 c18784), (9, .slice A18786 n18787 c18788), (11, .pointer (some ⟨g21945, 0, none⟩)), (15, .slice A1 n1 c1), (16, .int .i64 (a1.length : Int)), (17, .int .i64 x18789)] rfl (fun ac hA => ?_)
        replace hS := hS.drop 3
        replace hS := hS.drop 3
        replace hS := hS.drop 3
        replace hS := hS.pk 7
        replace hS := hS.pk 7
        replace hS := hS.pk 7
        replace hS := hS.pk 3
        replace hS := hS.pk 4
        replace hS := hS.pk 5
        replace hS := hS.pk 7
        replace hS := hS.pk 7
        exact hj1 (l18769 ++ [x22178]) hF A22317 n22318 c22319 A22321 n22322 c22323 A22325 n22326 c22327 ac w (hA.sub _ rfl) hS
    · refine ef rfl [(34, .int .i64 x21942.f2)] (fun ac hA K hK => ?_) rfl rfl
      refine z_bsl (d := (kI .i64)) (e := 2) (ps := #[(0, .int .i64 x21942.f2)]) (cells := [.int .i64 x21942.f2]) (xs := [x21942.f2]) (fun w => by kernel_rfl) rfl ⟨[.int .i64 x21942.f2], _, rfl, rfl, rfl⟩ hA hS (fun g22328 w hS => ?_) rfl rfl rfl
      refine hK _ [] _ rfl ?_
      refine dEff [0, 1, 2, 3, 6, 7, 8, 11] [4, 9] (by kernel_rfl) ⟨pu rfl rfl [(5, .slice A18770 n18771 c18772)] (fun ac hA => y_move hA rfl rfl) rfl rfl, pu rfl rfl [(11, .pointer (some ⟨g21945, 0, none⟩))] (fun ac hA => y_fab fa39_0 hA rfl rfl) rfl rfl, pu rfl rfl [(22, .pointer (some ⟨g21945, 0, none⟩))] (fun ac hA => y_ld Tryd.underlying36 (hS.cell 1 rfl 0 _ rfl) hA rfl rfl rfl) rfl rfl, pu rfl rfl [(23, .int .u64 x21942.f0)] (fun ac hA => (rv_i h22179 (r_convI Tryd.underlying36 Tryd.underlying2 rfl (hA.ev rfl)) : RunV _ _ _ _ (.int .i64 x22178))) rfl rfl, pu rfl rfl [(6, .slice A18774 n18775 c18776)] (fun ac hA => y_move hA rfl rfl) rfl rfl, pu rfl rfl [(11, .pointer (some ⟨g21945, 0, none⟩))] (fun ac hA => y_fab fa39_1 hA rfl rfl) rfl rfl, pu rfl rfl [(28, .pointer (some ⟨g21945, 1, none⟩))] (fun ac hA => y_ld Tryd.underlying3 (hS.cell 1 rfl 1 _ rfl) hA rfl rfl rfl) rfl rfl, pu rfl rfl [(7, .slice A18778 n18779 c18780)] (fun ac hA => y_move hA rfl rfl) rfl rfl, trivial⟩ (by kernel_rfl) (by kernel_rfl) ⟨?_, ?_, trivial⟩
      · refine ef rfl [(24, .int .i64 x22178)] (fun ac hA K hK => ?_) rfl rfl
        refine z_bsl (d := (kI .i64)) (e := 2) (ps := #[(0, .int .i64 x22178)]) (cells := [.int .i64 x22178]) (xs := [x22178]) (fun w => by kernel_rfl) rfl ⟨[.int .i64 x22178], _, rfl, rfl, rfl⟩ hA hS (fun g22329 w hS => ?_) rfl rfl rfl
        refine hK _ [] _ rfl ?_
        refine dEff [0, 6, 7, 8, 11] [5, 9] (by kernel_rfl) ⟨pu rfl rfl [(5, .slice A18770 n18771 c18772)] (fun ac hA => y_move hA rfl rfl) rfl rfl, pu rfl rfl [(6, .slice A18774 n18775 c18776)] (fun ac hA => y_move hA rfl rfl) rfl rfl, pu rfl rfl [(11, .pointer (some ⟨g21945, 0, none⟩))] (fun ac hA => y_fab fa39_1 hA rfl rfl) rfl rfl, pu rfl rfl [(28, .pointer (some ⟨g21945, 1, none⟩))] (fun ac hA => y_ld Tryd.underlying3 (hS.cell 2 rfl 1 _ rfl) hA rfl rfl rfl) rfl rfl, pu rfl rfl [(7, .slice A18778 n18779 c18780)] (fun ac hA => y_move hA rfl rfl) rfl rfl, trivial⟩ (by kernel_rfl) (by kernel_rfl) ⟨?_, ?_, trivial⟩
        · refine ef rfl [(21, .slice A18770 n18771 c18772), (25, .slice (some ⟨g22329, 0, none⟩) 1 1)] (fun ac hA K hK => ?_) rfl rfl
          obtain ⟨h22330, hF⟩ := chk_some hF
          have hr := hS.rd 0 rfl
          refine z_app 4 inf2 Tryd.underlying47 hA hS hr.1 hr.2.1 h22330 rfl (fun A22331 n22332 c22333 w hS => ?_) rfl rfl rfl rfl rfl rfl
          refine hK _ [] _ rfl ?_
          refine dEff [6, 7, 8, 11] [9] (by kernel_rfl) ⟨pu rfl rfl [(6, .slice A18774 n18775 c18776)] (fun ac hA => y_move hA rfl rfl) rfl rfl, pu rfl rfl [(11, .pointer (some ⟨g21945, 0, none⟩))] (fun ac hA => y_fab fa39_1 hA rfl rfl) rfl rfl, pu rfl rfl [(28, .pointer (some ⟨g21945, 1, none⟩))] (fun ac hA => y_ld Tryd.underlying3 (hS.cell 3 rfl 1 _ rfl) hA rfl rfl rfl) rfl rfl, pu rfl rfl [(7, .slice A18778 n18779 c18780)] (fun ac hA => y_move hA rfl rfl) rfl rfl, trivial⟩ (by kernel_rfl) (by kernel_rfl) ⟨ef rfl [(29, .int .i64 x21942.f1)] (fun ac hA K hK => ?_) rfl rfl, trivial⟩
          refine z_bsl (d := (kI .i64)) (e := 2) (ps := #[(0, .int .i64 x21942.f1)]) (cells := [.int .i64 x21942.f1]) (xs := [x21942.f1]) (fun w => by kernel_rfl) rfl ⟨[.int .i64 x21942.f1], _, rfl, rfl, rfl⟩ hA hS (fun g22334 w hS => ?_) rfl rfl rfl
          refine hK _ [] _ rfl ?_
          refine dEff [6, 11] [10] (by kernel_rfl) ⟨pu rfl rfl [(6, .slice A18774 n18775 c18776)] (fun ac hA => y_move hA rfl rfl) rfl rfl, pu rfl rfl [(7, .slice A18778 n18779 c18780)] (fun ac hA => y_move hA rfl rfl) rfl rfl, trivial⟩ (by kernel_rfl) (by kernel_rfl) ⟨ef rfl [(27, .slice A18774 n18775 c18776), (30, .slice (some ⟨g22334, 0, none⟩) 1 1)] (fun ac hA K hK => ?_) rfl rfl, trivial⟩
          obtain ⟨h22335, hF⟩ := chk_some hF
          have hr := hS.rd 0 rfl
          refine z_app 6 inf2 Tryd.underlying47 hA hS hr.1 hr.2.1 h22335 rfl (fun A22336 n22337 c22338 w hS => ?_) rfl rfl rfl rfl rfl rfl
          refine hK _ [] _ rfl ?_
          refine dEff [11] [15] (by kernel_rfl) ⟨pu rfl rfl [(7, .slice A18778 n18779 c18780)] (fun ac hA => y_move hA rfl rfl) rfl rfl, trivial⟩ (by kernel_rfl) (by kernel_rfl) ⟨ef rfl [(32, .slice A18778 n18779 c18780), (35, .slice (some ⟨g22328, 0, none⟩) 1 1)] (fun ac hA K hK => ?_) rfl rfl, trivial⟩
          obtain ⟨h22339, hF⟩ := chk_some hF
          have hr := hS.rd 4 rfl
          refine z_app 7 inf2 Tryd.underlying47 hA hS hr.1 hr.2.1 h22339 rfl (fun A22340 n22341 c22342 w hS => ?_) rfl rfl rfl rfl rfl rfl
          refine hK _ [(16, .slice A22331 n22332 c22333), (17, .slice A22336 n22337 c22338), (18, .slice A22340 n22341 c22342)] _ rfl ?_
          refine dEnd [16, 17, 18] (by kernel_rfl) ⟨pu rfl rfl [(26, .slice A22331 n22332 c22333)] (fun ac hA => y_assign hA rfl rfl) rfl rfl, pu rfl rfl [(31, .slice A22336 n22337 c22338)] (fun ac hA => y_assign hA rfl rfl) rfl rfl, pu rfl rfl [(36, .slice A22340 n22341 c22342)] (fun ac hA => y_assign hA rfl rfl) rfl rfl, trivial⟩ ⟨by kernel_rfl, by kernel_rfl⟩ [(0, .slice A0 n0 c0), (5, .slice A22331 n22332 c22333), (6, .slice A22336 n22337 c22338), (7, .slice A22340 n22341 c22342), (8, .slice A18782 n18783 c18784), (9, .slice A18786 n18787 c18788), (11, .pointer (some ⟨g21945, 0, none⟩)), (15, .slice A1 n1 c1), (16, .int .i64 (a1.length : Int)), (17, .int .i64 x18789)] rfl (fun ac hA => ?_)
          replace hS := hS.drop 2
          replace hS := hS.drop 3
          replace hS := hS.drop 3
          replace hS := hS.pk 7
          replace hS := hS.pk 7
          replace hS := hS.pk 7
          replace hS := hS.pk 3
          replace hS := hS.pk 4
          replace hS := hS.pk 5
          replace hS := hS.pk 7
          replace hS := hS.pk 7
          exact hj1 (l18769 ++ [x22178]) hF A22331 n22332 c22333 A22336 n22337 c22338 A22340 n22341 c22342 ac w (hA.sub _ rfl) hS
        · refine ef rfl [(29, .int .i64 x21942.f1)] (fun ac hA K hK => ?_) rfl rfl
          refine z_bsl (d := (kI .i64)) (e := 2) (ps := #[(0, .int .i64 x21942.f1)]) (cells := [.int .i64 x21942.f1]) (xs := [x21942.f1]) (fun w => by kernel_rfl) rfl ⟨[.int .i64 x21942.f1], _, rfl, rfl, rfl⟩ hA hS (fun g22343 w hS => ?_) rfl rfl rfl
          refine hK _ [] _ rfl ?_
          refine dEff [0, 6, 11] [5] (by kernel_rfl) ⟨pu rfl rfl [(5, .slice A18770 n18771 c18772)] (fun ac hA => y_move hA rfl rfl) rfl rfl, pu rfl rfl [(6, .slice A18774 n18775 c18776)] (fun ac hA => y_move hA rfl rfl) rfl rfl, pu rfl rfl [(7, .slice A18778 n18779 c18780)] (fun ac hA => y_move hA rfl rfl) rfl rfl, trivial⟩ (by kernel_rfl) (by kernel_rfl) ⟨ef rfl [(21, .slice A18770 n18771 c18772), (25, .slice (some ⟨g22329, 0, none⟩) 1 1)] (fun ac hA K hK => ?_) rfl rfl, trivial⟩
          obtain ⟨h22344, hF⟩ := chk_some hF
          have hr := hS.rd 1 rfl
          refine z_app 5 inf2 Tryd.underlying47 hA hS hr.1 hr.2.1 h22344 rfl (fun A22345 n22346 c22347 w hS => ?_) rfl rfl rfl rfl rfl rfl
          refine hK _ [] _ rfl ?_
          refine dEff [6, 11] [10] (by kernel_rfl) ⟨pu rfl rfl [(6, .slice A18774 n18775 c18776)] (fun ac hA => y_move hA rfl rfl) rfl rfl, pu rfl rfl [(7, .slice A18778 n18779 c18780)] (fun ac hA => y_move hA rfl rfl) rfl rfl, trivial⟩ (by kernel_rfl) (by kernel_rfl) ⟨ef rfl [(27, .slice A18774 n18775 c18776), (30, .slice (some ⟨g22343, 0, none⟩) 1 1)] (fun ac hA K hK => ?_) rfl rfl, trivial⟩
          obtain ⟨h22348, hF⟩ := chk_some hF
          have hr := hS.rd 1 rfl
          refine z_app 6 inf2 Tryd.underlying47 hA hS hr.1 hr.2.1 h22348 rfl (fun A22349 n22350 c22351 w hS => ?_) rfl rfl rfl rfl rfl rfl
          refine hK _ [] _ rfl ?_
          refine dEff [11] [15] (by kernel_rfl) ⟨pu rfl rfl [(7, .slice A18778 n18779 c18780)] (fun ac hA => y_move hA rfl rfl) rfl rfl, trivial⟩ (by kernel_rfl) (by kernel_rfl) ⟨ef rfl [(32, .slice A18778 n18779 c18780), (35, .slice (some ⟨g22328, 0, none⟩) 1 1)] (fun ac hA K hK => ?_) rfl rfl, trivial⟩
          obtain ⟨h22352, hF⟩ := chk_some hF
          have hr := hS.rd 4 rfl
          refine z_app 7 inf2 Tryd.underlying47 hA hS hr.1 hr.2.1 h22352 rfl (fun A22353 n22354 c22355 w hS => ?_) rfl rfl rfl rfl rfl rfl
          refine hK _ [(16, .slice A22345 n22346 c22347), (17, .slice A22349 n22350 c22351), (18, .slice A22353 n22354 c22355)] _ rfl ?_
          refine dEnd [16, 17, 18] (by kernel_rfl) ⟨pu rfl rfl [(26, .slice A22345 n22346 c22347)] (fun ac hA => y_assign hA rfl rfl) rfl rfl, pu rfl rfl [(31, .slice A22349 n22350 c22351)] (fun ac hA => y_assign hA rfl rfl) rfl rfl, pu rfl rfl [(36, .slice A22353 n22354 c22355)] (fun ac hA => y_assign hA rfl rfl) rfl rfl, trivial⟩ ⟨by kernel_rfl, by kernel_rfl⟩ [(0, .slice A0 n0 c0), (5, .slice A22345 n22346 c22347), (6, .slice A22349 n22350 c22351), (7, .slice A22353 n22354 c22355), (8, .slice A18782 n18783 c18784), (9, .slice A18786 n18787 c18788), (11, .pointer (some ⟨g21945, 0, none⟩)), (15, .slice A1 n1 c1), (16, .int .i64 (a1.length : Int)), (17, .int .i64 x18789)] rfl (fun ac hA => ?_)
          replace hS := hS.drop 3
          replace hS := hS.drop 3
          replace hS := hS.drop 3
          replace hS := hS.pk 7
          replace hS := hS.pk 7
          replace hS := hS.pk 7
          replace hS := hS.pk 3
          replace hS := hS.pk 4
          replace hS := hS.pk 5
          replace hS := hS.pk 7
          replace hS := hS.pk 7
          exact hj1 (l18769 ++ [x22178]) hF A22345 n22346 c22347 A22349 n22350 c22351 A22353 n22354 c22355 ac w (hA.sub _ rfl) hS
      · refine ef rfl [(29, .int .i64 x21942.f1)] (fun ac hA K hK => ?_) rfl rfl
        refine z_bsl (d := (kI .i64)) (e := 2) (ps := #[(0, .int .i64 x21942.f1)]) (cells := [.int .i64 x21942.f1]) (xs := [x21942.f1]) (fun w => by kernel_rfl) rfl ⟨[.int .i64 x21942.f1], _, rfl, rfl, rfl⟩ hA hS (fun g22356 w hS => ?_) rfl rfl rfl
        refine hK _ [] _ rfl ?_
        refine dEff [0, 1, 2, 3, 6, 11] [4] (by kernel_rfl) ⟨pu rfl rfl [(5, .slice A18770 n18771 c18772)] (fun ac hA => y_move hA rfl rfl) rfl rfl, pu rfl rfl [(11, .pointer (some ⟨g21945, 0, none⟩))] (fun ac hA => y_fab fa39_0 hA rfl rfl) rfl rfl, pu rfl rfl [(22, .pointer (some ⟨g21945, 0, none⟩))] (fun ac hA => y_ld Tryd.underlying36 (hS.cell 2 rfl 0 _ rfl) hA rfl rfl rfl) rfl rfl, pu rfl rfl [(23, .int .u64 x21942.f0)] (fun ac hA => (rv_i h22179 (r_convI Tryd.underlying36 Tryd.underlying2 rfl (hA.ev rfl)) : RunV _ _ _ _ (.int .i64 x22178))) rfl rfl, pu rfl rfl [(6, .slice A18774 n18775 c18776)] (fun ac hA => y_move hA rfl rfl) rfl rfl, pu rfl rfl [(7, .slice A18778 n18779 c18780)] (fun ac hA => y_move hA rfl rfl) rfl rfl, trivial⟩ (by kernel_rfl) (by kernel_rfl) ⟨ef rfl [(24, .int .i64 x22178)] (fun ac hA K hK => ?_) rfl rfl, trivial⟩
        refine z_bsl (d := (kI .i64)) (e := 2) (ps := #[(0, .int .i64 x22178)]) (cells := [.int .i64 x22178]) (xs := [x22178]) (fun w => by kernel_rfl) rfl ⟨[.int .i64 x22178], _, rfl, rfl, rfl⟩ hA hS (fun g22357 w hS => ?_) rfl rfl rfl
        refine hK _ [] _ rfl ?_
        refine dEff [0, 6, 11] [5] (by kernel_rfl) ⟨pu rfl rfl [(5, .slice A18770 n18771 c18772)] (fun ac hA => y_move hA rfl rfl) rfl rfl, pu rfl rfl [(6, .slice A18774 n18775 c18776)] (fun ac hA => y_move hA rfl rfl) rfl rfl, pu rfl rfl [(7, .slice A18778 n18779 c18780)] (fun ac hA => y_move hA rfl rfl) rfl rfl, trivial⟩ (by kernel_rfl) (by kernel_rfl) ⟨ef rfl [(21, .slice A18770 n18771 c18772), (25, .slice (some ⟨g22357, 0, none⟩) 1 1)] (fun ac hA K hK => ?_) rfl rfl, trivial⟩
        obtain ⟨h22358, hF⟩ := chk_some hF
        have hr := hS.rd 0 rfl
        refine z_app 5 inf2 Tryd.underlying47 hA hS hr.1 hr.2.1 h22358 rfl (fun A22359 n22360 c22361 w hS => ?_) rfl rfl rfl rfl rfl rfl
        refine hK _ [] _ rfl ?_
        refine dEff [6, 11] [10] (by kernel_rfl) ⟨pu rfl rfl [(6, .slice A18774 n18775 c18776)] (fun ac hA => y_move hA rfl rfl) rfl rfl, pu rfl rfl [(7, .slice A18778 n18779 c18780)] (fun ac hA => y_move hA rfl rfl) rfl rfl, trivial⟩ (by kernel_rfl) (by kernel_rfl) ⟨ef rfl [(27, .slice A18774 n18775 c18776), (30, .slice (some ⟨g22356, 0, none⟩) 1 1)] (fun ac hA K hK => ?_) rfl rfl, trivial⟩
        obtain ⟨h22362, hF⟩ := chk_some hF
        have hr := hS.rd 2 rfl
        refine z_app 6 inf2 Tryd.underlying47 hA hS hr.1 hr.2.1 h22362 rfl (fun A22363 n22364 c22365 w hS => ?_) rfl rfl rfl rfl rfl rfl
        refine hK _ [] _ rfl ?_
        refine dEff [11] [15] (by kernel_rfl) ⟨pu rfl rfl [(7, .slice A18778 n18779 c18780)] (fun ac hA => y_move hA rfl rfl) rfl rfl, trivial⟩ (by kernel_rfl) (by kernel_rfl) ⟨ef rfl [(32, .slice A18778 n18779 c18780), (35, .slice (some ⟨g22328, 0, none⟩) 1 1)] (fun ac hA K hK => ?_) rfl rfl, trivial⟩
        obtain ⟨h22366, hF⟩ := chk_some hF
        have hr := hS.rd 4 rfl
        refine z_app 7 inf2 Tryd.underlying47 hA hS hr.1 hr.2.1 h22366 rfl (fun A22367 n22368 c22369 w hS => ?_) rfl rfl rfl rfl rfl rfl
        refine hK _ [(16, .slice A22359 n22360 c22361), (17, .slice A22363 n22364 c22365), (18, .slice A22367 n22368 c22369)] _ rfl ?_
        refine dEnd [16, 17, 18] (by kernel_rfl) ⟨pu rfl rfl [(26, .slice A22359 n22360 c22361)] (fun ac hA => y_assign hA rfl rfl) rfl rfl, pu rfl rfl [(31, .slice A22363 n22364 c22365)] (fun ac hA => y_assign hA rfl rfl) rfl rfl, pu rfl rfl [(36, .slice A22367 n22368 c22369)] (fun ac hA => y_assign hA rfl rfl) rfl rfl, trivial⟩ ⟨by kernel_rfl, by kernel_rfl⟩ [(0, .slice A0 n0 c0), (5, .slice A22359 n22360 c22361), (6, .slice A22363 n22364 c22365), (7, .slice A22367 n22368 c22369), (8, .slice A18782 n18783 c18784), (9, .slice A18786 n18787 c18788), (11, .pointer (some ⟨g21945, 0, none⟩)), (15, .slice A1 n1 c1), (16, .int .i64 (a1.length : Int)), (17, .int .i64 x18789)] rfl (fun ac hA => ?_)
        replace hS := hS.drop 3
        replace hS := hS.drop 3
        replace hS := hS.drop 3
        replace hS := hS.pk 7
        replace hS := hS.pk 7
        replace hS := hS.pk 7
        replace hS := hS.pk 3
        replace hS := hS.pk 4
        replace hS := hS.pk 5
        replace hS := hS.pk 7
        replace hS := hS.pk 7
        exact hj1 (l18769 ++ [x22178]) hF A22359 n22360 c22361 A22363 n22364 c22365 A22367 n22368 c22369 ac w (hA.sub _ rfl) hS
  replace hF := iff' hb20604 hF
  refine wp_exit ?_
  cases hF
  exact hx20600_0 l18769 l18773 l18777 l18781 l18785 (T20600_ _ rfl) A18770 n18771 c18772 A18774 n18775 c18776 A18778 n18779 c18780 A18782 n18783 c18784 A18786 n18787 c18788 ac w (hA.sub _ rfl) hS
end Go.Proofs.YthokgnonmcgkcaaDoor.M
namespace Go.Proofs.YthokgnonmcgkcaaDoor.M
open Go Go.RowKit Go.Proofs.YthokgnonmcgkcaaDoor.E
set_option linter.unusedVariables false
set_option linter.unusedSimpArgs false
noncomputable def law06_fine_b1 : Option (Bool) :=
  some true
noncomputable def law06_fine_x1_0 : Option (Bool) :=
  law06_fine_b1
noncomputable def law06_fine_l1 (a0 : (List S39)) (a1 : Int) (x272 : Int) : Option ((Int) ⊕ ((Unit) ⊕ (Bool))) :=
  if (decide (x272 < (a0.length : Int))) = true then ((at_ a0 x272).bind fun x296 => ((r06_Form x296 a1).bind fun y299 => (if (!y299) = true then (some (.inr (.inr false))) else (ltt (IntKind.i64.wrap (x272 + 1)) fun x303 => (some (.inl (x303))))))) else (some (.inr (.inl ())))
noncomputable def law06_fine (a0 : (List S39)) (a1 : Int) : Option (Bool) :=
  (loop (fun s => law06_fine_l1 a0 a1 s) (0)).bind fun t => match t with | (.inl t) => law06_fine_x1_0 | (.inr t) => some t
noncomputable def law06_EventFew_j1 (a0 : (List S39)) (x105 : Int) (b115 : Bool) : Option (Bool) :=
  if b115 = true then ((law06_awake).bind fun y118 => (some y118)) else ((event_Lay [] a0).bind fun y121 => ((event_Read y121 0 x105).bind fun y135 => ((law06_fine a0 x105).bind fun y146 => (some ((y135.2.2 == 0) == y146)))))
noncomputable def law06_EventFew (a0 : (List S39)) (a1 : Int) : Option (Bool) :=
  ltt (IntKind.i64.wrap a1) fun x103 => (ltt (IntKind.i64.wrap (1 + (x103.tmod 8))) fun x105 => ((law06_awake).bind fun y148 => (if (!y148) = true then (law06_EventFew_j1 a0 x105 true) else (if (decide (60 < (a0.length : Int))) = true then (law06_EventFew_j1 a0 x105 true) else ((law06_fine a0 8).bind fun y152 => (law06_EventFew_j1 a0 x105 (!y152)))))))
end Go.Proofs.YthokgnonmcgkcaaDoor.M
namespace Go.Proofs.YthokgnonmcgkcaaDoor.M
open Go Go.RowKit Go.Proofs.YthokgnonmcgkcaaDoor.E
set_option linter.unusedVariables false
set_option linter.unusedSimpArgs false
set_option maxRecDepth 100000 in
set_option maxHeartbeats 4000000 in
theorem F_law06_fine {r : World} {L : List HP} {w : World} (a0 : (List S39)) (a1 : Int) (A0 : Option Addr) (n0 : Nat) (c0 : Nat) {y : (Bool)} (hF : law06_fine a0 a1 = some y) (ha0 : RdL L k39 A0 n0 c0 a0) (hS : SH r (L) w) :
    Ret Tryd.prog 9 #[.slice A0 n0 c0, .int .i64 a1] w fun v w' => v = .bool y ∧ SH r (L) w' := by
  refine enter Tryd.func9 rfl Tryd.ntmps9 [(0, .slice A0 n0 c0), (1, .int .i64 a1)] rfl (by simp) ?_
  intro ac hA Qf hQ hQn
  unfold law06_fine at hF
  refine wp_seq_k fun K101 hK101 => ?_
  refine wp_reg ?_
  refine x_assign hA (fun ac hA => ?_) rfl rfl rfl rfl rfl
  refine wpList_nil ?_
  refine hK101 _ _ ?_
  refine wp_seq_k fun K102 hK102 => ?_
  refine wp_seq_k fun K204 hK204 => ?_
  refine wp_reg ?_
  refine x_assign hA (fun ac hA => ?_) rfl rfl rfl rfl rfl
  refine wpList_nil ?_
  refine hK204 _ _ ?_
  refine wp_block_k fun Kx205 hKx205 => ?_
  have hb1 : law06_fine_b1 = some y → ∀ (ac : Act) (w : World), FR 19 [] ac [] → SH r (L) w → Kx205 ac w := by
    intro hF ac w hA hS
    unfold law06_fine_b1 at hF
    refine hKx205 _ _ ?_
    refine hK102 _ _ ?_
    refine wp_seq_k fun K255 hK255 => ?_
    refine wp_reg ?_
    refine x_assign hA (fun ac hA => ?_) rfl rfl rfl rfl rfl
    refine wpList_nil ?_
    refine hK255 _ _ ?_
    refine wp_ret ?_
    cases hF
    refine hQ _ _ ?_
    refine lv Tryd.results9 hA rfl ?_
    exact ⟨rfl, hS⟩
  obtain ⟨t288, hl288, hF⟩ := bnd hF
  have hR288 := hF
  have hx288_0 : (.inl ()) = t288 → ∀ (ac : Act) (w : World), FR 19 [] ac [] → SH r (L) w → Kx205 ac w := by
    intro ht ac w hA hS
    subst ht
    replace hF : law06_fine_x1_0 = some y := hF
    unfold law06_fine_x1_0 at hF
    exact hb1 hF ac w (hA.sub _ rfl) hS
  refine wp_loop_fn hl288 (fun s ac w => FR 19 [] ac [(0, .slice A0 n0 c0), (1, .int .i64 a1), (5, .int .i64 s)] ∧ SH r (L) w) ⟨hA.sub _ rfl, hS⟩ ?_
  intro N288 s288 o288 hF N288_ T288_ ac w hLab
  obtain ⟨x272, rfl⟩ : ∃ q, q = s288 := ⟨_, rfl⟩
  replace hF : law06_fine_l1 a0 a1 x272 = some o288 := hF
  unfold law06_fine_l1 at hF
  try dsimp only at hLab
  obtain ⟨hA, hS⟩ := hLab
  refine wp_seq_k fun K290 hK290 => ?_
  refine wp_seq_k fun K291 hK291 => ?_
  refine wp_reg ?_
  refine x_move hA (fun ac hA => ?_) rfl rfl rfl rfl rfl
  refine x_move hA (fun ac hA => ?_) rfl rfl rfl rfl rfl
  refine x_len Tryd.underlying24 (hS.rdl 0 ha0 rfl).2.1 hA (fun ac hA => ?_) rfl rfl rfl rfl rfl
  refine x_val hA (r_ltI rfl (hA.ev rfl) (hA.ev rfl)) (fun ac hA => ?_) rfl rfl rfl
  refine wpList_nil ?_
  refine hK291 _ _ ?_
  refine c_if hA rfl (fun hb292 => ?_) fun hb292 => ?_
  · replace hF := ift hb292 hF
    refine wp_skip ?_
    refine hK290 _ _ ?_
    refine wp_seq_k fun K293 hK293 => ?_
    refine wp_block_k fun Kx294 hKx294 => ?_
    refine wp_seq_k fun K295 hK295 => ?_
    refine wp_reg ?_
    refine x_move hA (fun ac hA => ?_) rfl rfl rfl rfl rfl
    refine x_move hA (fun ac hA => ?_) rfl rfl rfl rfl rfl
    obtain ⟨x296, h297, hF⟩ := bnd hF
    refine x_ia Tryd.underlying24 sz39 (hS.rdl 0 ha0 rfl) h297 hA (fun ac hA => ?_) rfl rfl rfl rfl rfl rfl
    obtain ⟨cs, hV, hc298⟩ := el (hS.rdl 0 ha0 rfl) h297
    obtain rfl := hV
    refine x_lda (cs := [.int .u64 x296.f0, .int .i64 x296.f1, .int .i64 x296.f2, str x296.f3, .float .f64 x296.f4]) Tryd.underlying39 sz39 (fun j u h => by rw [ea_add]; exact hc298 _ _ h) hA (fun ac hA => ?_) rfl rfl rfl rfl rfl rfl
    refine x_move hA (fun ac hA => ?_) rfl rfl rfl rfl rfl
    obtain ⟨y299, h300, hF⟩ := bnd hF
    refine x_call en26 hA (F_r06_Form (L := L) x296 a1 h300 hS) (fun v ac w hR hA => ?_) rfl rfl rfl rfl rfl
    obtain ⟨rfl, hS⟩ := hR
    refine x_val hA (r_not rfl (hA.ev rfl)) (fun ac hA => ?_) rfl rfl rfl
    refine wpList_nil ?_
    refine hK295 _ _ ?_
    refine c_if hA rfl (fun hb301 => ?_) fun hb301 => ?_
    · replace hF := ift hb301 hF
      refine wp_seq_k fun K302 hK302 => ?_
      refine wp_reg ?_
      refine x_assign hA (fun ac hA => ?_) rfl rfl rfl rfl rfl
      refine wpList_nil ?_
      refine hK302 _ _ ?_
      refine wp_ret ?_
      cases hF
      have ht := T288_ _ rfl
      subst ht
      replace hF := hR288
      replace hF : some false = some y := hF
      cases hF
      refine hQ _ _ ?_
      refine lv Tryd.results9 hA rfl ?_
      exact ⟨rfl, hS⟩
    replace hF := iff' hb301 hF
    refine wp_skip ?_
    refine hKx294 _ _ ?_
    refine hK293 _ _ ?_
    refine wp_reg ?_
    refine x_move hA (fun ac hA => ?_) rfl rfl rfl rfl rfl
    obtain ⟨x303, h304, hF⟩ := ltt_ hF
    refine x_val (v := .int .i64 x303) hA (rv_i h304 (r_add rfl (hA.ev rfl) (hA.ev rfl))) (fun ac hA => ?_) rfl rfl rfl
    refine x_assign hA (fun ac hA => ?_) rfl rfl rfl rfl rfl
    refine wpList_nil ?_
    cases hF
    exact ⟨_, N288_ _ rfl, hA.sub _ rfl, hS⟩
  replace hF := iff' hb292 hF
  refine wp_exit ?_
  cases hF
  exact hx288_0 (T288_ _ rfl) ac w (hA.sub _ rfl) hS
set_option maxRecDepth 100000 in
set_option maxHeartbeats 4000000 in
theorem F_law06_EventFew {r : World} {L : List HP} {w : World} {Z : Nat → Prop} {wz : World} (a0 : (List S39)) (a1 : Int) (A0 : Option Addr) (n0 : Nat) (c0 : Nat) {y : (Bool)} (hF : law06_EventFew a0 a1 = some y) (ha0 : Imm Z wz k39 A0 n0 c0 a0) (hG0 : Imm Z wz (kI .u32) (some ⟨0, 0, none⟩) 16 16 gl_page_table) (hS : SH r (zone Z wz :: L) w) :
    Ret Tryd.prog 4 #[.slice A0 n0 c0, .int .u8 a1] w fun v w' => ∃ (Z' : Nat → Prop) (wz' : World), v = .bool y ∧ Sub Z wz Z' wz' ∧ SH r (zone Z' wz' :: L) w' := by
  refine enter Tryd.func4 rfl Tryd.ntmps4 [(0, .slice A0 n0 c0), (1, .int .u8 a1)] rfl (by simp) ?_
  intro ac hA Qf hQ hQn
  unfold law06_EventFew at hF
  refine wp_seq_k fun K101 hK101 => ?_
  refine wp_reg ?_
  refine x_assign hA (fun ac hA => ?_) rfl rfl rfl rfl rfl
  refine wpList_nil ?_
  refine hK101 _ _ ?_
  refine wp_seq_k fun K102 hK102 => ?_
  refine wp_reg ?_
  refine x_move hA (fun ac hA => ?_) rfl rfl rfl rfl rfl
  obtain ⟨x103, h104, hF⟩ := ltt_ hF
  refine x_val (v := .int .i64 x103) hA (rv_i h104 (r_convI Tryd.underlying5 Tryd.underlying3 rfl (hA.ev rfl))) (fun ac hA => ?_) rfl rfl rfl
  refine x_val hA (r_rem rfl (hA.ev rfl) (hA.ev rfl) (by decide)) (fun ac hA => ?_) rfl rfl rfl
  obtain ⟨x105, h106, hF⟩ := ltt_ hF
  refine x_val (v := .int .i64 x105) hA (rv_i h106 (r_add rfl (hA.ev rfl) (hA.ev rfl))) (fun ac hA => ?_) rfl rfl rfl
  refine x_assign hA (fun ac hA => ?_) rfl rfl rfl rfl rfl
  refine wpList_nil ?_
  refine hK102 _ _ ?_
  refine wp_seq_k fun K107 hK107 => ?_
  refine wp_seq_k fun K108 hK108 => ?_
  have hj1 : ∀ (b115 : Bool), law06_EventFew_j1 a0 x105 b115 = some y → ∀ (ac : Act) (w : World), FR 40 [] ac [(0, .slice A0 n0 c0), (5, .int .i64 x105), (24, .bool b115)] → SH r (zone Z wz :: L) w → K108 ac w := by
    intro b115 hF ac w hA hS
    unfold law06_EventFew_j1 at hF
    refine hK108 _ _ ?_
    refine c_if hA rfl (fun hb116 => ?_) fun hb116 => ?_
    · replace hF := ift hb116 hF
      refine wp_seq_k fun K117 hK117 => ?_
      refine wp_reg ?_
      obtain ⟨y118, h119, hF⟩ := bnd hF
      refine x_call en5 hA (F_law06_awake (L := zone Z wz :: L) h119 hS) (fun v ac w hR hA => ?_) rfl rfl rfl rfl rfl
      obtain ⟨rfl, hS⟩ := hR
      refine x_assign hA (fun ac hA => ?_) rfl rfl rfl rfl rfl
      refine wpList_nil ?_
      refine hK117 _ _ ?_
      refine wp_ret ?_
      cases hF
      refine hQ _ _ ?_
      refine lv Tryd.results4 hA rfl ?_
      exact ⟨Z, wz, rfl, (Sub.refl _ _), hS⟩
    replace hF := iff' hb116 hF
    refine wp_skip ?_
    refine hK107 _ _ ?_
    refine wp_seq_k fun K120 hK120 => ?_
    refine wp_reg ?_
    refine x_move hA (fun ac hA => ?_) rfl rfl rfl rfl rfl
    replace hS := SH.nil_own (d := (kI .u8)) (e := 5) hS
    replace hS := hS.pk 1
    replace hS := hS.pk 1
    obtain ⟨y121, h122, hF⟩ := bnd hF
    refine x_call en10 hA (F_event_Lay (L := L) [] a0 none 0 0 A0 n0 c0 h122 ha0 hG0 hS) (fun v ac w hR hA => ?_) rfl rfl rfl rfl rfl
    obtain ⟨Z123, wz124, B125, m126, d127, rfl, h128, hS⟩ := hR
    have h129 := Imm.sub ha0 h128
    refine x_move hA (fun ac hA => ?_) rfl rfl rfl rfl rfl
    replace hS := hS.pk 1
    replace hS := hS.pk 1
    obtain ⟨Z130, wz131, hS, h132, sb133⟩ := SH.freeze (n := m126) (c := d127) (A := B125) hS
    have h134 := Imm.sub h129 sb133
    obtain ⟨y135, h136, hF⟩ := bnd hF
    refine x_call en6 hA (F_event_Read (L := L) y121 0 x105 B125 m126 d127 h136 h132 (Imm.sub hG0 (Sub.trans h128 sb133)) hS) (fun v ac w hR hA => ?_) rfl rfl rfl rfl rfl
    obtain ⟨Z137, wz138, B139, m140, d141, rfl, h142, hS⟩ := hR
    have h143 := Imm.sub h134 h142
    have h144 := Imm.sub h132 h142
    refine x_move hA (fun ac hA => ?_) rfl rfl rfl rfl rfl
    refine x_val hA (r_extract rfl (hA.ev rfl) rfl) (fun ac hA => ?_) rfl rfl rfl
    refine x_val hA (r_extract rfl (hA.ev rfl) rfl) (fun ac hA => ?_) rfl rfl rfl
    refine x_val hA (r_extract rfl (hA.ev rfl) rfl) (fun ac hA => ?_) rfl rfl rfl
    refine x_assign hA (fun ac hA => ?_) rfl rfl rfl rfl rfl
    refine x_assign hA (fun ac hA => ?_) rfl rfl rfl rfl rfl
    refine x_assign hA (fun ac hA => ?_) rfl rfl rfl rfl rfl
    refine wpList_nil ?_
    refine hK120 _ _ ?_
    refine wp_seq_k fun K145 hK145 => ?_
    refine wp_reg ?_
    refine x_move hA (fun ac hA => ?_) rfl rfl rfl rfl rfl
    refine x_val hA (r_eqI rfl (hA.ev rfl) (hA.ev rfl)) (fun ac hA => ?_) rfl rfl rfl
    refine x_move hA (fun ac hA => ?_) rfl rfl rfl rfl rfl
    refine x_move hA (fun ac hA => ?_) rfl rfl rfl rfl rfl
    obtain ⟨y146, h147, hF⟩ := bnd hF
    refine x_call en9 hA (F_law06_fine (L := own k39 39 B139 m140 d141 y135.1 :: zone Z137 wz138 :: L) a0 x105 A0 n0 c0 h147 (h143.rdl 1 rfl) hS) (fun v ac w hR hA => ?_) rfl rfl rfl rfl rfl
    obtain ⟨rfl, hS⟩ := hR
    refine x_val hA (r_eqB Tryd.underlying4 rfl (hA.ev rfl) (hA.ev rfl)) (fun ac hA => ?_) rfl rfl rfl
    refine x_assign hA (fun ac hA => ?_) rfl rfl rfl rfl rfl
    refine wpList_nil ?_
    refine hK145 _ _ ?_
    refine wp_ret ?_
    replace hS := hS.drop 0
    cases hF
    refine hQ _ _ ?_
    refine lv Tryd.results4 hA rfl ?_
    exact ⟨Z137, wz138, rfl, (Sub.trans (Sub.trans h128 sb133) h142), hS⟩
  refine wp_reg ?_
  obtain ⟨y148, h149, hF⟩ := bnd hF
  refine x_call en5 hA (F_law06_awake (L := zone Z wz :: L) h149 hS) (fun v ac w hR hA => ?_) rfl rfl rfl rfl rfl
  obtain ⟨rfl, hS⟩ := hR
  refine x_val hA (r_not rfl (hA.ev rfl)) (fun ac hA => ?_) rfl rfl rfl
  refine x_move hA (fun ac hA => ?_) rfl rfl rfl rfl rfl
  refine bcase (b := !y148) (fun hb150 => ?_) fun hb150 => ?_
  · replace hF := ift hb150 hF
    refine x_off hb150 hA (fun ac hA => ?_) rfl rfl rfl rfl rfl
    refine x_off hb150 hA (fun ac hA => ?_) rfl rfl rfl rfl rfl
    refine x_off hb150 hA (fun ac hA => ?_) rfl rfl rfl rfl rfl
    refine x_pickt hb150 hA (fun ac hA => ?_) rfl rfl rfl rfl rfl rfl
    refine x_move hA (fun ac hA => ?_) rfl rfl rfl rfl rfl
    refine x_off rfl hA (fun ac hA => ?_) rfl rfl rfl rfl rfl
    refine x_off rfl hA (fun ac hA => ?_) rfl rfl rfl rfl rfl
    refine x_off rfl hA (fun ac hA => ?_) rfl rfl rfl rfl rfl
    refine x_pickt rfl hA (fun ac hA => ?_) rfl rfl rfl rfl rfl rfl
    refine wpList_nil ?_
    exact hj1 true hF ac w (hA.sub _ rfl) hS
  replace hF := iff' hb150 hF
  refine x_on hb150 hA ?_ rfl rfl rfl
  refine x_move hA (fun ac hA => ?_) rfl rfl rfl rfl rfl
  refine x_on hb150 hA ?_ rfl rfl rfl
  refine x_len Tryd.underlying24 (hS.imm 0 ha0 rfl).2.1 hA (fun ac hA => ?_) rfl rfl rfl rfl rfl
  refine x_on hb150 hA ?_ rfl rfl rfl
  refine x_val hA (r_gtI rfl (hA.ev rfl) (hA.ev rfl)) (fun ac hA => ?_) rfl rfl rfl
  refine x_pickf hb150 hA (fun ac hA => ?_) rfl rfl rfl rfl rfl rfl
  refine x_move hA (fun ac hA => ?_) rfl rfl rfl rfl rfl
  refine bcase (b := decide (60 < (a0.length : Int))) (fun hb151 => ?_) fun hb151 => ?_
  · replace hF := ift hb151 hF
    refine x_off hb151 hA (fun ac hA => ?_) rfl rfl rfl rfl rfl
    refine x_off hb151 hA (fun ac hA => ?_) rfl rfl rfl rfl rfl
    refine x_off hb151 hA (fun ac hA => ?_) rfl rfl rfl rfl rfl
    refine x_pickt hb151 hA (fun ac hA => ?_) rfl rfl rfl rfl rfl rfl
    refine wpList_nil ?_
    exact hj1 true hF ac w (hA.sub _ rfl) hS
  replace hF := iff' hb151 hF
  refine x_on hb151 hA ?_ rfl rfl rfl
  refine x_move hA (fun ac hA => ?_) rfl rfl rfl rfl rfl
  refine x_on hb151 hA ?_ rfl rfl rfl
  obtain ⟨y152, h153, hF⟩ := bnd hF
  refine x_call en9 hA (F_law06_fine (L := zone Z wz :: L) a0 8 A0 n0 c0 h153 (ha0.rdl 0 rfl) hS) (fun v ac w hR hA => ?_) rfl rfl rfl rfl rfl
  obtain ⟨rfl, hS⟩ := hR
  refine x_on hb151 hA ?_ rfl rfl rfl
  refine x_val hA (r_not rfl (hA.ev rfl)) (fun ac hA => ?_) rfl rfl rfl
  refine x_pickf hb151 hA (fun ac hA => ?_) rfl rfl rfl rfl rfl rfl
  refine wpList_nil ?_
  exact hj1 (!y152) hF ac w (hA.sub _ rfl) hS
end Go.Proofs.YthokgnonmcgkcaaDoor.M
namespace Go.Proofs.YthokgnonmcgkcaaDoor.eventFew
open Go Go.RowKit Go.ChangeShapes Go.WideShapes Go.ChangeAt Go.Proofs.YthokgnonmcgkcaaDoor.E Go.Proofs.YthokgnonmcgkcaaDoor.M
set_option linter.unusedVariables false
theorem own : ownKnob Tryd.prog.godebug = none := by kernel_rfl
theorem laidOut : laidOutB Tryd.prog = true := by kernel_rfl
theorem gN : Tryd.prog.globalNamed "headrace/page.table" = some 0 := by kernel_rfl
theorem gT : (Tryd.prog.globals[0]?).map (·.type) = some 109 := by kernel_rfl
theorem door_met (os : Os) (args : Array Value) : laidMetH Tryd.prog Rows.eventFewRow.laid ((World.doorLaid Tryd.prog 400 os).forCall (fun _ _ => 0) ⟨#[], args, []⟩).memory :=
  laidMetH_of_parts3 (fuel := 8) (laidMet_of_run' 8 (by kernel_rfl) (by kernel_rfl)) (by kernel_rfl) (by kernel_rfl)
theorem of_laid {W : World} (h : laidMetH Tryd.prog Rows.eventFewRow.laid W) : Imm (HeapZ W) W (kI .u32) (some ⟨0, 0, none⟩) 16 16 M.gl_page_table := by
  rw [MakeChecks.laidMetH_plain _ _ _ (by kernel_rfl)] at h
  exact tab_imm gN gT Tryd.underlying109 Tryd.underlying79 ce79 rfl (by decide) h
def Pure : Prop := ∀ (a0 : (List M.S39)) (a1 : Int), (gL 48 M.g39) a0 → (gI .u8) a1 → M.law06_EventFew a0 a1 = some true
set_option maxRecDepth 100000 in
theorem lifted (hP : Pure) (os : Os) (started : os.Started) (H : Type) (enc : TypeId × Value → H) :
    ReturnsInHanded {} Tryd.checked os 4 .any (fun w args => (Rows.eventFewSpec.pre enc Tryd.prog Tryd.f4 [] false w args ∧ laidMetH Tryd.prog Rows.eventFewRow.laid w) ∧ sizedMet enc Tryd.prog Tryd.f4 (OpenSpec.ofChange Rows.eventFewSpec) false w args)
      (Rows.eventFewSpec.post enc Tryd.prog Tryd.f4 false true false false) := by
  refine returnsInHanded_of_change_and (C := Tryd.checked) (X := fun w _ => laidMetH Tryd.prog Rows.eventFewRow.laid w) (fun _ _ _ hh h => h.of_heap hh) own started (by kernel_rfl) Tryd.func4
    (ChangeSpec.witness_shaped (enc := enc) (C := Tryd.checked) (os := os) (X := fun w _ => laidMetH Tryd.prog Rows.eventFewRow.laid w) false (World.doorLaid Tryd.prog 400 os) #[.slice none 0 0, .int .u8 0] 8 rfl (World.shaped_of_RefB (by kernel_rfl) (by kernel_rfl)) (by kernel_rfl) (by kernel_rfl) (by kernel_rfl) (door_met os _)) ?_
  intro W base args ds gs before hval0 hW hcnd hsz0 hL _
  have hsz : (DataW.weightsEach Tryd.prog (Tryd.f4.params.toList ++ Rows.eventFewSpec.plain.varTypes Tryd.prog) (ds ++ gs)).all (· ≤ reachBytes) = true := hsz0
  have hval : ∀ (j : Nat) t v, Tryd.f4.params[j]? = some t → args[j]? = some v → Value.okWide Tryd.prog W .any base t v := hval0
  have hW' := hW
  obtain ⟨p, q, hA0, hV, rfl, hfz, hnd⟩ := hW
  have hA : DataW.TrodAll enc Tryd.prog W 0 (fun _ => true) true Tryd.f4.params.toList args.toList ds p := hA0
  rw [Tryd.params4] at hA hval hsz
  obtain ⟨v0, vs0, d0, ds0, p0, q0, hargs, rfl, rfl, h0, r0⟩ := trodAll_cons hA
  obtain ⟨v1, vs1, d1, ds1, p1, q1, rfl, rfl, rfl, h1, r1⟩ := trodAll_cons r0
  obtain ⟨rfl, rfl, rfl⟩ := trodAll_nil r1
  obtain rfl : args = #[v0, v1] := by cases args; simp_all
  obtain ⟨rfl, rfl⟩ := trodVars_none hV
  have k0 := h0
  have lt0 : ∀ x ∈ p0, x.block < W.heap.size := by obtain ⟨m, hm⟩ := k0; exact DataW.trod_lt m _ _ _ hm
  obtain ⟨x0, hx0, g0⟩ := Opens.arg (opSl Tryd.underlying24 ce39 (Nat.succ_pos _) by39 op39) h0 (Wt.of hsz (j := 0) rfl rfl)
  obtain ⟨A0, n0, c0, rfl⟩ := okWide_slice Tryd.underlying24 (hval 0 24 v0 rfl rfl)
  obtain ⟨A0', n0', c0', he0, i0⟩ := hx0
  cases (show [Value.slice A0 n0 c0] = [Value.slice A0' n0' c0'] from he0)
  have k1 := h1
  have lt1 : ∀ x ∈ p1, x.block < W.heap.size := by obtain ⟨m, hm⟩ := k1; exact DataW.trod_lt m _ _ _ hm
  obtain ⟨x1, hx1, g1⟩ := Opens.arg (opI Tryd.underlying5) h1 (Wt.of hsz (j := 1) rfl rfl)
  obtain ⟨u1, rfl⟩ := okWide_int Tryd.underlying5 (hval 1 5 v1 rfl rfl)
  cases (show [Value.int .u8 u1] = [Value.int .u8 x1] from hx1)
  clear hA0 hval0 hsz0 hsz
  refine Calls.mono (M.F_law06_EventFew (Z := HeapZ W) (wz := W) x0 x1 A0 n0 c0 (hP x0 x1 g0 g1) i0 (of_laid hL) (L := []) (SH.start W)) ?_
  rintro e W' ⟨v, rfl, Z', wz', rfl, hs, hS⟩
  have bel := SH.below hS hs
  exact ⟨_, rfl, _, _, _, [], _, [], hW', trodAll_mk1 (shut_bool Tryd.underlying4 _), (trodAll_cons_mk (Below.trod laidOut (by kernel_rfl) (of_decide_eq_true (by kernel_rfl)) k0 bel lt0) (trodAll_cons_mk (Below.trod laidOut (by kernel_rfl) (of_decide_eq_true (by kernel_rfl)) k1 bel lt1) trodAll_mk0)), rfl, bel.frame _, fun h => by cases h⟩
theorem over (hP : Pure) : Rows.eventFewRow.holds Tryd.pinned (OpenSpec.ofChange Rows.eventFewSpec) :=
  OpenClaim.holds_of_wide 4 Tryd.f4 rfl rfl rfl rfl rfl rfl rfl ⟨rfl, rfl, rfl, rfl, rfl⟩ rfl rfl rfl rfl rfl (by kernel_rfl) Tryd.func4 (by kernel_rfl)
    (of_decide_eq_true (by kernel_rfl)) (by unfold Func.isWrapper; first | (rw [if_pos (by decide +kernel)]; kernel_rfl) | (rw [if_neg (by decide +kernel)]; exact ⟨rfl, rfl⟩))
    (fun os started H enc _ => lifted hP os started H enc)
def hrn : Bool × String := Rows.eventFewCard.stood.harness
theorem card (hP : Pure) : Rows.EventFewCardSaid :=
  Claim7.holds_tied_plain_at .later [] [.data] true hrn true
    (over hP) (fun _ h => by cases h) (by kernel_rfl) (fun _ h => by cases h) eventFew_row_tie rfl ⟨rfl, rfl⟩ (by kernel_rfl) rfl
    (fun f fn hf hfn => by
      obtain rfl : f = 4 := Option.some.inj ((show Tryd.prog.funcNamed "headrace/headracelaw06.EventFew" = some 4 by kernel_rfl).symm.trans hf) |>.symm
      obtain rfl : fn = Tryd.f4 := (Option.some.inj (Tryd.func4.symm.trans hfn)).symm
      exact ⟨by kernel_rfl, fun j t ht => by
        rw [Tryd.params4] at ht
        have hm : t ∈ [24, 5] := by simpa using Array.mem_of_getElem? ht
        have hall : ([24, 5].all fun u => !Tryd.prog.wantsStandIn u) = true := by kernel_rfl
        exact (show Tryd.prog.wantsStandIn t = false by simpa using List.all_eq_true.1 hall t hm)⟩)
    (by kernel_rfl)
end Go.Proofs.YthokgnonmcgkcaaDoor.eventFew
namespace Go.Proofs.YthokgnonmcgkcaaDoor.P
open Go Go.RowKit Go.Proofs.YthokgnonmcgkcaaDoor.E Go.Proofs.YthokgnonmcgkcaaDoor.M
set_option linter.unusedVariables false
set_option linter.unusedSectionVars false
theorem at_nat {α : Type} (xs : List α) (n : Nat) : at_ xs (n : Int) = xs[n]? := by simp [at_]
theorem at_int {α : Type} {xs : List α} {i : Int} {n : Nat} {x : α} (hi : i = n) (h : xs[n]? = some x) : at_ xs i = some x := by subst hi; rw [at_nat, h]
theorem cut_nat {α : Type} {xs : List α} {l u : Nat} (h : l ≤ u) (hu : u ≤ xs.length) : cut_ xs (l : Int) (u : Int) = some ((xs.take u).drop l) := by
  unfold cut_; rw [if_pos (by omega)]; simp
theorem chk_pos {α : Type} {p : Prop} [Decidable p] {x : Option α} (h : p) : chk p x = x := if_pos h
theorem w64 {n : Int} (h : -9223372036854775808 ≤ n) (h' : n ≤ 9223372036854775807) : IntKind.i64.wrap n = n := IntWalk.i64_in n ⟨h, h'⟩
theorem u64w {n : Int} (h : 0 ≤ n) (h' : n < 18446744073709551616) : IntKind.u64.wrap n = n := IntWalk.u64_in n ⟨h, by omega⟩
theorem u8w {n : Int} (h : 0 ≤ n) (h' : n < 256) : IntKind.u8.wrap n = n := IntWalk.u8_in n ⟨h, by omega⟩
theorem lt_ {α β : Type} (e : α) (f : α → Option β) : ltt e f = f e := rfl
theorem loop_at {σ τ : Type} {b : σ → Option (σ ⊕ τ)} (f : Nat → σ) {t : τ} : ∀ (n : Nat) (i : Nat), (∀ k, i ≤ k → k < i + n → b (f k) = some (.inl (f (k + 1)))) → b (f (i + n)) = some (.inr t) → loop b (f i) = some t
  | 0, i, _, he => loop_end he
  | n + 1, i, hs, he => (loop_nxt (hs i (Nat.le_refl _) (by omega))).trans (loop_at f n (i + 1) (fun k h1 h2 => hs k (by omega) (by omega)) (by rw [show i + 1 + n = i + (n + 1) by omega]; exact he))
theorem loop_to {σ τ : Type} {b : σ → Option (σ ⊕ τ)} (f : Nat → σ) {t : τ} (n : Nat) (hs : ∀ k, k < n → b (f k) = some (.inl (f (k + 1)))) (he : b (f n) = some (.inr t)) : loop b (f 0) = some t :=
  loop_at f n 0 (fun k _ h => hs k (by omega)) (by simpa using he)
theorem ofInt_nat (n a : Nat) : BitVec.ofInt n (a : Int) = BitVec.ofNat n a := BitVec.ofInt_natCast n a
theorem u64_nat (a : Nat) : IntKind.u64.wrap (a : Int) = ((a % 18446744073709551616 : Nat) : Int) := by
  rw [IntKind.wrap_u64]; omega
theorem u8_nat (a : Nat) : IntKind.u8.wrap (a : Int) = ((a % 256 : Nat) : Int) := by rw [IntKind.wrap_u8]; omega
theorem iand_u64 {a b : Nat} (ha : a < 18446744073709551616) (hb : b < 18446744073709551616) : iand .u64 (a : Int) (b : Int) = ((a &&& b : Nat) : Int) := by
  unfold iand
  rw [ofInt_nat, ofInt_nat, u64_nat]
  have h : a &&& b < 18446744073709551616 := Nat.lt_of_le_of_lt Nat.and_le_left ha
  simp only [BitVec.toNat_and, BitVec.toNat_ofNat, show IntKind.u64.bits = 64 from rfl]
  rw [Nat.mod_eq_of_lt (show a < 2 ^ 64 by omega), Nat.mod_eq_of_lt (show b < 2 ^ 64 by omega), Nat.mod_eq_of_lt h]
theorem iand_u8 {a b : Nat} (ha : a < 256) (hb : b < 256) : iand .u8 (a : Int) (b : Int) = ((a &&& b : Nat) : Int) := by
  unfold iand
  rw [ofInt_nat, ofInt_nat, u8_nat]
  have h : a &&& b < 256 := Nat.lt_of_le_of_lt Nat.and_le_left ha
  simp only [BitVec.toNat_and, BitVec.toNat_ofNat, show IntKind.u8.bits = 8 from rfl]
  rw [Nat.mod_eq_of_lt (show a < 2 ^ 8 by omega), Nat.mod_eq_of_lt (show b < 2 ^ 8 by omega), Nat.mod_eq_of_lt h]
theorem ior_u64 {a b : Nat} (ha : a < 18446744073709551616) (hb : b < 18446744073709551616) : ior .u64 (a : Int) (b : Int) = ((a ||| b : Nat) : Int) := by
  unfold ior
  rw [ofInt_nat, ofInt_nat, u64_nat]
  have h : a ||| b < 2 ^ 64 := Nat.or_lt_two_pow (show a < 2 ^ 64 by omega) (show b < 2 ^ 64 by omega)
  simp only [BitVec.toNat_or, BitVec.toNat_ofNat, show IntKind.u64.bits = 64 from rfl]
  rw [Nat.mod_eq_of_lt (show a < 2 ^ 64 by omega), Nat.mod_eq_of_lt (show b < 2 ^ 64 by omega), Nat.mod_eq_of_lt (show a ||| b < 18446744073709551616 from h)]
theorem ior_u8 {a b : Nat} (ha : a < 256) (hb : b < 256) : ior .u8 (a : Int) (b : Int) = ((a ||| b : Nat) : Int) := by
  unfold ior
  rw [ofInt_nat, ofInt_nat, u8_nat]
  have h : a ||| b < 2 ^ 8 := Nat.or_lt_two_pow (show a < 2 ^ 8 by omega) (show b < 2 ^ 8 by omega)
  simp only [BitVec.toNat_or, BitVec.toNat_ofNat, show IntKind.u8.bits = 8 from rfl]
  rw [Nat.mod_eq_of_lt (show a < 2 ^ 8 by omega), Nat.mod_eq_of_lt (show b < 2 ^ 8 by omega), Nat.mod_eq_of_lt (show a ||| b < 256 from h)]
theorem ixor_u64 {a b : Nat} (ha : a < 18446744073709551616) (hb : b < 18446744073709551616) : ixor .u64 (a : Int) (b : Int) = ((a ^^^ b : Nat) : Int) := by
  unfold ixor
  rw [ofInt_nat, ofInt_nat, u64_nat]
  have h : a ^^^ b < 2 ^ 64 := Nat.xor_lt_two_pow (show a < 2 ^ 64 by omega) (show b < 2 ^ 64 by omega)
  simp only [BitVec.toNat_xor, BitVec.toNat_ofNat, show IntKind.u64.bits = 64 from rfl]
  rw [Nat.mod_eq_of_lt (show a < 2 ^ 64 by omega), Nat.mod_eq_of_lt (show b < 2 ^ 64 by omega), Nat.mod_eq_of_lt (show a ^^^ b < 18446744073709551616 from h)]
theorem two_pow (n : Nat) : (2 : Int) ^ n = ((2 ^ n : Nat) : Int) := (Int.natCast_pow 2 n).symm
theorem ishr_nat {k : IntKind} (a n : Nat) (h : n ≤ k.bits) : ishr k (a : Int) (n : Int) = ((a / 2 ^ n : Nat) : Int) := by
  unfold ishr
  rw [Int.toNat_natCast, Nat.min_eq_left h, two_pow, Int.fdiv_eq_ediv_of_nonneg _ (Int.natCast_nonneg _)]
  rfl
theorem ishl_u64 (a n : Nat) (h : n ≤ 64) : ishl .u64 (a : Int) (n : Int) = ((a * 2 ^ n % 18446744073709551616 : Nat) : Int) := by
  unfold ishl
  rw [Int.toNat_natCast, show min n IntKind.u64.bits = n from Nat.min_eq_left h, two_pow, ← Int.natCast_mul, u64_nat]
theorem ishl_u8 (a n : Nat) (h : n ≤ 8) : ishl .u8 (a : Int) (n : Int) = ((a * 2 ^ n % 256 : Nat) : Int) := by
  unfold ishl
  rw [Int.toNat_natCast, show min n IntKind.u8.bits = n from Nat.min_eq_left h, two_pow, ← Int.natCast_mul, u8_nat]
theorem or_top {a n : Nat} (h : a < 2 ^ n) (b : Nat) : a ||| (b * 2 ^ n) = a + b * 2 ^ n := by
  rw [Nat.or_comm, Nat.mul_comm, ← Nat.two_pow_add_eq_or_of_lt h, Nat.add_comm]
end Go.Proofs.YthokgnonmcgkcaaDoor.P
namespace Go.Proofs.YthokgnonmcgkcaaDoor.P
open Go Go.RowKit Go.Proofs.YthokgnonmcgkcaaDoor.E Go.Proofs.YthokgnonmcgkcaaDoor.M
set_option linter.unusedVariables false
set_option linter.unusedSectionVars false
def uv (n : Nat) : List Int := if h : n < 128 then [(n : Int)] else ((n % 128 + 128 : Nat) : Int) :: uv (n / 128)
termination_by n
decreasing_by omega
theorem uv_small {n : Nat} (h : n < 128) : uv n = [(n : Int)] := by rw [uv, dif_pos h]
theorem uv_large {n : Nat} (h : ¬ n < 128) : uv n = ((n % 128 + 128 : Nat) : Int) :: uv (n / 128) := by rw [uv, dif_neg h]
theorem uv_length : ∀ (k n : Nat), n < 128 ^ (k + 1) → (uv n).length ≤ k + 1
  | 0, n, h => by rw [uv_small (by simpa using h)]; simp
  | k + 1, n, h => by
    by_cases hn : n < 128
    · rw [uv_small hn]; simp
    · rw [uv_large hn, List.length_cons]
      have := uv_length k (n / 128) (by rw [Nat.pow_succ] at h; exact Nat.div_lt_of_lt_mul (by rw [Nat.mul_comm]; exact h))
      omega
theorem uv_length64 {n : Nat} (h : n < 18446744073709551616) : (uv n).length ≤ 10 := uv_length 9 n (by omega)
set_option maxRecDepth 100000 in
theorem or_128 : ∀ m : Fin 256, (m.val ||| 128) = m.val % 128 + 128 := by decide
theorem Uint_app (n : Nat) : ∀ (a0 : List Int), n < 18446744073709551616 → a0.length + (uv n).length ≤ 140737488355328 → column_Uint a0 (n : Int) = some (a0 ++ uv n) := by
  induction n using Nat.strongRecOn with
  | _ n ih =>
    intro a0 h hl
    unfold column_Uint
    by_cases hn : n < 128
    · rw [loop_end (t := (a0, (n : Int))) (by
        show column_Uint_l1 a0 (n : Int) = _
        unfold column_Uint_l1
        rw [if_neg (by simp only [decide_eq_true_eq]; omega)])]
      simp only [Option.bind_some]
      unfold column_Uint_x1_0 column_Uint_b1
      rw [uv_small hn] at hl ⊢
      rw [lt_, u8w (by omega) (by omega), chk_pos (by simpa using hl)]
    · have hl' := hl
      rw [uv_large hn, List.length_cons] at hl'
      have e1 : IntKind.u8.wrap (n : Int) = ((n % 256 : Nat) : Int) := u8_nat n
      have e2 : ior .u8 ((n % 256 : Nat) : Int) 128 = ((n % 128 + 128 : Nat) : Int) := by
        have := ior_u8 (a := n % 256) (b := 128) (by omega) (by omega)
        rw [show ((128 : Nat) : Int) = 128 from rfl] at this
        rw [this, or_128 ⟨n % 256, by omega⟩]
        simp only
        omega
      have e3 : ishr .u64 (n : Int) 7 = ((n / 128 : Nat) : Int) := ishr_nat (k := .u64) n 7 (by decide)
      rw [loop_nxt (s' := (a0 ++ [((n % 128 + 128 : Nat) : Int)], ((n / 128 : Nat) : Int))) (by
        show column_Uint_l1 a0 (n : Int) = _
        unfold column_Uint_l1
        rw [if_pos (by simp only [decide_eq_true_eq]; omega), lt_, e1, lt_, e2, chk_pos (by simp; omega), lt_, e3])]
      have := ih (n / 128) (by omega) (a0 ++ [((n % 128 + 128 : Nat) : Int)]) (by omega) (by simp; omega)
      unfold column_Uint at this
      rw [this, uv_large hn]
      simp
def zz (i : Int) : Nat := if i < 0 then (-(i + 1)).toNat * 2 + 1 else i.toNat * 2
def uz (n : Nat) : Int := if n % 2 = 1 then -((n / 2 : Nat) : Int) - 1 else ((n / 2 : Nat) : Int)
theorem uz_zz (i : Int) : uz (zz i) = i := by unfold uz zz; split <;> split <;> omega
def i64 (i : Int) : Prop := -9223372036854775808 ≤ i ∧ i ≤ 9223372036854775807
theorem zz_lt {i : Int} (h : i64 i) : zz i < 18446744073709551616 := by
  unfold i64 at h
  unfold zz; split <;> omega
theorem i64_wrap (x : Int) : i64 (IntKind.i64.wrap x) := by
  rw [IntWalk.i64_left]; unfold wrap64 i64; omega
theorem xor_ones {a : Nat} (h : a < 18446744073709551616) : ixor .u64 (a : Int) 18446744073709551615 = ((18446744073709551615 - a : Nat) : Int) := by
  show IntKind.u64.wrap (((BitVec.ofInt 64 (a : Int) ^^^ BitVec.allOnes 64).toNat : Nat) : Int) = _
  rw [ofInt_nat, BitVec.xor_allOnes, u64_nat, BitVec.toNat_not, BitVec.toNat_ofNat, Nat.mod_eq_of_lt (show a < 2 ^ 64 by omega)]
  omega
theorem zz_eq {i : Int} (h : i64 i) : ixor .u64 (IntKind.u64.wrap (ishl .i64 i 1)) (IntKind.u64.wrap (ishr .i64 i 63)) = (zz i : Int) := by
  unfold i64 at h
  have e1 : ishl .i64 i 1 = IntKind.i64.wrap (i * 2) := rfl
  have e2 : ishr .i64 i 63 = if i < 0 then -1 else 0 := by
    unfold ishr
    rw [show (63 : Int).toNat = 63 from rfl, show min 63 IntKind.i64.bits = 63 from rfl, Int.fdiv_eq_ediv_of_nonneg _ (by decide)]
    split <;> omega
  rw [e1, e2]
  have e3 : IntKind.u64.wrap (IntKind.i64.wrap (i * 2)) = (i * 2) % 18446744073709551616 := by
    rw [IntKind.wrap_u64, IntWalk.i64_left]; unfold wrap64; omega
  rw [e3]
  unfold zz
  by_cases hi : i < 0
  · rw [if_pos hi, if_pos hi, show IntKind.u64.wrap (-1) = 18446744073709551615 from rfl]
    obtain ⟨m, hm⟩ : ∃ m : Nat, (i * 2) % 18446744073709551616 = (m : Int) := ⟨((i * 2) % 18446744073709551616).toNat, by omega⟩
    rw [hm, xor_ones (by omega)]
    omega
  · rw [if_neg hi, if_neg hi, show IntKind.u64.wrap 0 = ((0 : Nat) : Int) from rfl]
    obtain ⟨m, hm⟩ : ∃ m : Nat, (i * 2) % 18446744073709551616 = (m : Int) := ⟨((i * 2) % 18446744073709551616).toNat, by omega⟩
    rw [hm, ixor_u64 (by omega) (by omega), Nat.xor_zero]
    omega
theorem Int_app {i : Int} (h : i64 i) (a0 : List Int) (hl : a0.length + 10 ≤ 140737488355328) : column_Int a0 i = some (a0 ++ uv (zz i)) := by
  unfold column_Int
  have := uv_length64 (zz_lt h)
  simp only [lt_, zz_eq h, Uint_app _ a0 (zz_lt h) (by omega), Option.bind_some]
theorem Text_app (s : List UInt8) (a0 : List Int) (hs : s.length ≤ 9223372036854775807) (hl : a0.length + s.length + 10 ≤ 140737488355328) : column_Text a0 s = some (a0 ++ uv s.length ++ stb s) := by
  unfold column_Text
  have := uv_length64 (n := s.length) (by omega)
  rw [lt_, u64w (by omega) (by omega), Uint_app _ a0 (by omega) (by omega)]
  simp only [Option.bind_some]
  rw [chk_pos (by simp; omega)]
def Bs (xs : List Int) : Prop := ∀ b ∈ xs, 0 ≤ b ∧ b < 256
theorem Bs.nil : Bs [] := fun _ h => by cases h
theorem Bs.cons {b : Int} {xs : List Int} (h : Bs (b :: xs)) : (0 ≤ b ∧ b < 256) ∧ Bs xs := ⟨h b List.mem_cons_self, fun c hc => h c (List.mem_cons_of_mem _ hc)⟩
theorem Bs.mk {b : Int} {xs : List Int} (hb : 0 ≤ b ∧ b < 256) (h : Bs xs) : Bs (b :: xs) := fun c hc => by
  rcases List.mem_cons.1 hc with rfl | hc
  · exact hb
  · exact h c hc
theorem Bs.app {xs ys : List Int} (h : Bs xs) (h' : Bs ys) : Bs (xs ++ ys) := fun c hc => (List.mem_append.1 hc).elim (h c) (h' c)
theorem Bs.l {xs ys : List Int} (h : Bs (xs ++ ys)) : Bs xs := fun c hc => h c (List.mem_append.2 (.inl hc))
theorem Bs.r {xs ys : List Int} (h : Bs (xs ++ ys)) : Bs ys := fun c hc => h c (List.mem_append.2 (.inr hc))
theorem Bs.drop {xs : List Int} (h : Bs xs) (n : Nat) : Bs (xs.drop n) := fun c hc => h c (List.mem_of_mem_drop hc)
theorem Bs.take {xs : List Int} (h : Bs xs) (n : Nat) : Bs (xs.take n) := fun c hc => h c (List.mem_of_mem_take hc)
theorem Bs.uv (n : Nat) : Bs (uv n) := by
  induction n using Nat.strongRecOn with
  | _ n ih =>
    by_cases hn : n < 128
    · rw [uv_small hn]; exact Bs.mk (by omega) Bs.nil
    · rw [uv_large hn]; exact Bs.mk (by omega) (ih _ (by omega))
theorem Bs.stb (s : List UInt8) : Bs (stb s) := by
  intro c hc
  unfold E.stb at hc
  obtain ⟨b, _, rfl⟩ := List.mem_map.1 hc
  have := b.toNat_lt
  omega
end Go.Proofs.YthokgnonmcgkcaaDoor.P
namespace Go.Proofs.YthokgnonmcgkcaaDoor.P
open Go Go.RowKit Go.Proofs.YthokgnonmcgkcaaDoor.E Go.Proofs.YthokgnonmcgkcaaDoor.M
set_option linter.unusedVariables false
set_option linter.unusedSectionVars false
def pB : List Int → Option (Int × List Int)
  | [] => none
  | b :: r => some (b, r)
def pV (i n : Nat) : List Int → Option (Nat × List Int)
  | [] => none
  | b :: r => if i < 9 ∨ (i = 9 ∧ b < 2) then
      (if b < 128 then (if i = 0 ∨ 0 < b then some (n + b.toNat % 128 * 2 ^ (7 * i), r) else none) else pV (i + 1) (n + b.toNat % 128 * 2 ^ (7 * i)) r)
    else none
def pU (most : Int) (xs : List Int) : Option (Int × List Int) := match pV 0 0 xs with
  | some (n, r) => if (n : Int) ≤ most then some ((n : Int), r) else none
  | none => none
def pI (xs : List Int) : Option (Int × List Int) := match pU 18446744073709551615 xs with
  | some (n, r) => some (uz n.toNat, r)
  | none => none
def pT (most : Int) (xs : List Int) : Option (List UInt8 × List Int) := match pU (IntKind.u64.wrap most) xs with
  | some (n, r) => if n ≤ (r.length : Int) then some (bts (r.take n.toNat), r.drop n.toNat) else none
  | none => none
def IsR {ρ : Type} (o : Option ((ρ × S86) ⊕ S86)) (p : Option (ρ × List Int)) : Prop :=
  match p with
  | some (a, r) => o = some (.inl (a, ⟨r⟩))
  | none => ∃ s, o = some (.inr s)
theorem IsR.cases {ρ : Type} {o : Option ((ρ × S86) ⊕ S86)} {p : Option (ρ × List Int)} (h : IsR o p) : (∃ a r, p = some (a, r) ∧ o = some (.inl (a, ⟨r⟩))) ∨ (p = none ∧ ∃ s, o = some (.inr s)) := by
  unfold IsR at h
  split at h
  · exact .inl ⟨_, _, rfl, h⟩
  · exact .inr ⟨rfl, h⟩
theorem s_inl {α β γ : Type} (a : α) (f : α → Option γ) (g : β → Option γ) : sum_ (.inl a) f g = f a := rfl
theorem Check_t (s : S86) : column_Reader_Check s true = some (.inl s) := rfl
theorem Check_f (s : S86) : column_Reader_Check s false = some (.inr s) := rfl
theorem Byte_is (xs : List Int) : IsR (column_Reader_Byte ⟨xs⟩) (pB xs) := by
  unfold column_Reader_Byte
  cases xs with
  | nil => exact ⟨_, rfl⟩
  | cons b r =>
    rw [show decide (0 < (((⟨b :: r⟩ : S86).f0.length : Nat) : Int)) = true by simp, Check_t]
    simp only [Option.bind_some, s_inl]
    have h1 : at_ (b :: r) 0 = some b := rfl
    have h2 : cut_ (b :: r) 1 ((b :: r).length : Int) = some r := by
      have := cut_nat (xs := b :: r) (l := 1) (u := (b :: r).length) (by simp) (Nat.le_refl _)
      rw [show ((1 : Nat) : Int) = 1 from rfl, List.take_length] at this
      exact this
    rw [h1]
    simp only [Option.bind_some]
    rw [h2]
    rfl
theorem and_127 (a : Nat) : a &&& 127 = a % 128 := Nat.and_two_pow_sub_one_eq_mod a 7
theorem pV_lt : ∀ (xs : List Int) (i n m : Nat) (r : List Int), n < 2 ^ (7 * i) → n < 18446744073709551616 → pV i n xs = some (m, r) → m < 18446744073709551616 ∧ ∃ p, xs = p ++ r ∧ 0 < p.length
  | [], i, n, m, r, _, _, h => by cases h
  | b :: xs, i, n, m, r, h1, h2, h => by
    unfold pV at h
    split at h
    · rename_i hc
      have hlt : n + b.toNat % 128 * 2 ^ (7 * i) < 18446744073709551616 ∧ n + b.toNat % 128 * 2 ^ (7 * i) < 2 ^ (7 * (i + 1)) := by
        have hp : 2 ^ (7 * (i + 1)) = 128 * 2 ^ (7 * i) := by rw [show 7 * (i + 1) = 7 + 7 * i by omega, Nat.pow_add]
        have hm : b.toNat % 128 * 2 ^ (7 * i) ≤ 127 * 2 ^ (7 * i) := Nat.mul_le_mul_right _ (by omega)
        refine ⟨?_, by rw [hp]; omega⟩
        rcases hc with hc | ⟨hc, hb⟩
        · have : 2 ^ (7 * i) ≤ 2 ^ 56 := Nat.pow_le_pow_right (by decide) (by omega)
          omega
        · subst hc
          have : b.toNat % 128 * 2 ^ (7 * 9) ≤ 1 * 2 ^ (7 * 9) := Nat.mul_le_mul_right _ (by omega)
          omega
      split at h
      · split at h
        · cases h
          exact ⟨hlt.1, [b], rfl, by simp⟩
        · cases h
      · obtain ⟨q1, p, rfl, q3⟩ := pV_lt xs (i + 1) _ m r hlt.2 hlt.1 h
        exact ⟨q1, b :: p, rfl, by simp⟩
    · cases h
theorem Uloop (most : Int) : ∀ (xs : List Int) (i n : Nat), Bs xs → i ≤ 10 → n < 2 ^ (7 * i) → n < 18446744073709551616 →
    IsR (loop (fun s : List Int × Int × Int => column_Reader_Uint_l1 most s.1 s.2.1 s.2.2) (xs, (n : Int), (i : Int))) (match pV i n xs with | some (m, r) => if (m : Int) ≤ most then some ((m : Int), r) else none | none => none)
  | [], i, n, hB, hi, h1, h2 => ⟨⟨[]⟩, loop_end rfl⟩
  | b :: xs, i, n, hB, hi, h1, h2 => by
    obtain ⟨hb, hB'⟩ := hB.cons
    generalize hpv : pV i n (b :: xs) = pv
    have hby : column_Reader_Byte ⟨b :: xs⟩ = some (.inl (b, ⟨xs⟩)) := Byte_is (b :: xs)
    obtain ⟨c, rfl⟩ : ∃ c : Nat, b = (c : Int) := ⟨b.toNat, by omega⟩
    have hcase : (c : Int) < 128 ∨ 128 ≤ (c : Int) := by omega
    by_cases hc : i < 9 ∨ (i = 9 ∧ (c : Int) < 2)
    · -- the byte is taken
      have hp : 2 ^ (7 * (i + 1)) = 128 * 2 ^ (7 * i) := by rw [show 7 * (i + 1) = 7 + 7 * i by omega, Nat.pow_add]
      have hm : c % 128 * 2 ^ (7 * i) ≤ 127 * 2 ^ (7 * i) := Nat.mul_le_mul_right _ (by omega)
      have hlt : c % 128 * 2 ^ (7 * i) < 18446744073709551616 ∧ n + c % 128 * 2 ^ (7 * i) < 18446744073709551616 := by
        rcases hc with hc | ⟨hc, hb⟩
        · have : 2 ^ (7 * i) ≤ 2 ^ 56 := Nat.pow_le_pow_right (by decide) (by omega)
          omega
        · subst hc
          have : c % 128 * 2 ^ (7 * 9) ≤ 1 * 2 ^ (7 * 9) := Nat.mul_le_mul_right _ (by omega)
          omega
      have hlt2 : n + c % 128 * 2 ^ (7 * i) < 2 ^ (7 * (i + 1)) := by rw [hp]; omega
      obtain ⟨m, hm'⟩ : ∃ m, m = n + c % 128 * 2 ^ (7 * i) := ⟨_, rfl⟩
      have e1 : iand .u8 (c : Int) 127 = ((c % 128 : Nat) : Int) := by
        have := iand_u8 (a := c) (b := 127) (by omega) (by omega)
        rw [show ((127 : Nat) : Int) = 127 from rfl] at this
        rw [this, and_127]
      have e2 : IntKind.i64.wrap (7 * (i : Int)) = ((7 * i : Nat) : Int) := by rw [w64 (by omega) (by omega)]; omega
      have e3 : ishl .u64 ((c % 128 : Nat) : Int) ((7 * i : Nat) : Int) = ((c % 128 * 2 ^ (7 * i) : Nat) : Int) := by
        rw [ishl_u64 _ _ (by omega), Nat.mod_eq_of_lt hlt.1]
      have e4 : ior .u64 (n : Int) ((c % 128 * 2 ^ (7 * i) : Nat) : Int) = (m : Int) := by rw [ior_u64 h2 hlt.1, or_top h1, hm']
      have hl1 : column_Reader_Uint_l1 most ((c : Int) :: xs) (n : Int) (i : Int) = column_Reader_Uint_j1 most (n : Int) (i : Int) ((c : Int), ⟨xs⟩) xs := by
        unfold column_Reader_Uint_l1
        rw [hby]
        simp only [Option.bind_some, s_inl]
        rcases hc with hc | ⟨hc, hc2⟩
        · rw [if_pos (by simp only [decide_eq_true_eq]; omega), Check_t]; rfl
        · rw [if_neg (by simp only [decide_eq_true_eq]; omega), if_pos (by subst hc; rfl), show decide ((c : Int) < 2) = true by simpa using hc2, Check_t]; rfl
      have hj : column_Reader_Uint_j1 most (n : Int) (i : Int) ((c : Int), ⟨xs⟩) xs = if (c : Int) < 128 then (if (m : Int) ≤ most ∧ (i = 0 ∨ 0 < (c : Int)) then some (.inr (.inl ((m : Int), ⟨xs⟩))) else some (.inr (.inr ⟨xs⟩))) else some (.inl (xs, (m : Int), ((i + 1 : Nat) : Int))) := by
        unfold column_Reader_Uint_j1
        simp only [lt_]
        rw [e1, u64w (by omega) (by omega), e2, chk_pos (by omega), e3, e4]
        by_cases hc1 : (c : Int) < 128
        · rw [if_pos (by simpa using hc1), if_pos hc1]
          by_cases hmo : (m : Int) ≤ most
          · rw [if_pos (by simpa using hmo)]
            by_cases hi0 : i = 0
            · subst hi0
              rw [if_pos (by rfl), Check_t, if_pos ⟨hmo, .inl rfl⟩]
              rfl
            · rw [if_neg (by simpa using hi0)]
              by_cases hc0 : 0 < (c : Int)
              · rw [show decide (0 < (c : Int)) = true by simpa using hc0, Check_t, if_pos ⟨hmo, .inr hc0⟩]; rfl
              · rw [show decide (0 < (c : Int)) = false by simpa using hc0, Check_f, if_neg (by rintro ⟨_, q | q⟩; exact hi0 q; exact hc0 q)]; rfl
          · rw [if_neg (by simpa using hmo), Check_f, if_neg (fun q => hmo q.1)]; rfl
        · rw [if_neg (by simpa using hc1), if_neg hc1, w64 (by omega) (by omega)]; rfl
      rw [pV, if_pos hc, Int.toNat_natCast, ← hm'] at hpv
      rcases hcase with hc1 | hc1
      · rw [if_pos hc1] at hj hpv
        by_cases h0 : i = 0 ∨ 0 < (c : Int)
        · rw [if_pos h0] at hpv
          subst hpv
          simp only
          by_cases hmo : (m : Int) ≤ most
          · rw [if_pos ⟨hmo, h0⟩] at hj
            rw [if_pos hmo]
            exact loop_end (hl1.trans hj)
          · rw [if_neg (fun q => hmo q.1)] at hj
            rw [if_neg hmo]
            exact ⟨_, loop_end (hl1.trans hj)⟩
        · rw [if_neg h0] at hpv
          subst hpv
          rw [if_neg (fun q => h0 q.2)] at hj
          exact ⟨_, loop_end (hl1.trans hj)⟩
      · rw [if_neg (Int.not_lt.2 hc1)] at hj hpv
        rw [loop_nxt (hl1.trans hj)]
        subst hpv
        exact Uloop most xs (i + 1) m hB' (by omega) (by rw [hm']; exact hlt2) (by rw [hm']; exact hlt.2)
    · rw [pV, if_neg hc] at hpv
      subst hpv
      refine ⟨_, loop_end (t := Sum.inr ⟨xs⟩) ?_⟩
      show column_Reader_Uint_l1 most ((c : Int) :: xs) (n : Int) (i : Int) = _
      unfold column_Reader_Uint_l1
      rw [hby]
      simp only [Option.bind_some, s_inl]
      rw [if_neg (by simp only [decide_eq_true_eq]; omega)]
      by_cases hi9 : i = 9
      · rw [if_pos (by subst hi9; rfl), show decide ((c : Int) < 2) = false by simp; omega, Check_f]; rfl
      · rw [if_neg (by simp; omega), Check_f]; rfl
theorem Uint_is (most : Int) {xs : List Int} (hB : Bs xs) : IsR (column_Reader_Uint ⟨xs⟩ most) (pU most xs) := by
  unfold column_Reader_Uint pU
  have := Uloop most xs 0 0 hB (by omega) (by simp) (by omega)
  simp only [Int.natCast_zero] at this
  rcases this.cases with ⟨a, r, h1, h2⟩ | ⟨h1, s, h2⟩
  · rw [h1]; show _ = _; rw [h2]; rfl
  · rw [h1]; exact ⟨s, by rw [h2]; rfl⟩
theorem pU_some {most : Int} {xs r : List Int} {n : Int} (h : pU most xs = some (n, r)) : (0 ≤ n ∧ n < 18446744073709551616 ∧ n ≤ most) ∧ ∃ p, xs = p ++ r ∧ 0 < p.length := by
  unfold pU at h
  split at h
  · rename_i m r' he
    split at h
    · cases h
      obtain ⟨h1, h2⟩ := pV_lt _ _ _ _ _ (by simp) (by omega) he
      exact ⟨⟨by omega, by omega, by assumption⟩, h2⟩
    · cases h
  · cases h
theorem pU_bs {most : Int} {xs r : List Int} {n : Int} (hB : Bs xs) (h : pU most xs = some (n, r)) : Bs r := by
  obtain ⟨_, p, rfl, _⟩ := pU_some h
  exact hB.r
theorem and_1 (a : Nat) : a &&& 1 = a % 2 := Nat.and_two_pow_sub_one_eq_mod a 1
theorem xor_m1 {a : Nat} (h : a < 9223372036854775808) : ixor .i64 (a : Int) (-1) = -(a : Int) - 1 := by
  show IntKind.i64.wrap (((BitVec.ofInt 64 (a : Int) ^^^ BitVec.allOnes 64).toNat : Nat) : Int) = _
  rw [ofInt_nat, BitVec.xor_allOnes, BitVec.toNat_not, BitVec.toNat_ofNat, Nat.mod_eq_of_lt (show a < 2 ^ 64 by omega), IntWalk.i64_left]
  unfold wrap64
  omega
theorem xor_0 {a : Nat} (h : a < 9223372036854775808) : ixor .i64 (a : Int) 0 = (a : Int) := by
  show IntKind.i64.wrap (((BitVec.ofInt 64 (a : Int) ^^^ 0#64).toNat : Nat) : Int) = _
  rw [ofInt_nat, BitVec.xor_zero, BitVec.toNat_ofNat, Nat.mod_eq_of_lt (show a < 2 ^ 64 by omega), w64 (by omega) (by omega)]
theorem uz_eq {n : Nat} (h : n < 18446744073709551616) : ixor .i64 (IntKind.i64.wrap (ishr .u64 (n : Int) 1)) (IntKind.i64.wrap (0 - IntKind.i64.wrap (iand .u64 (n : Int) 1))) = uz n := by
  have e1 : ishr .u64 (n : Int) 1 = ((n / 2 : Nat) : Int) := ishr_nat (k := .u64) n 1 (by decide)
  have e2 : iand .u64 (n : Int) 1 = ((n % 2 : Nat) : Int) := by
    have := iand_u64 (a := n) (b := 1) h (by omega)
    rw [show ((1 : Nat) : Int) = 1 from rfl] at this
    rw [this, and_1]
  rw [e1, e2, w64 (n := ((n / 2 : Nat) : Int)) (by omega) (by omega), w64 (n := ((n % 2 : Nat) : Int)) (by omega) (by omega), w64 (by omega) (by omega)]
  unfold uz
  by_cases ho : n % 2 = 1
  · rw [if_pos ho, ho, show (0 : Int) - ((1 : Nat) : Int) = -1 from rfl, xor_m1 (by omega)]
  · rw [if_neg ho, show n % 2 = 0 by omega, show (0 : Int) - ((0 : Nat) : Int) = 0 from rfl, xor_0 (by omega)]
theorem Int_is {xs : List Int} (hB : Bs xs) : IsR (column_Reader_Int ⟨xs⟩) (pI xs) := by
  unfold column_Reader_Int pI
  rcases (Uint_is 18446744073709551615 hB).cases with ⟨a, r, h1, h2⟩ | ⟨h1, s, h2⟩
  · rw [h1, h2]
    obtain ⟨⟨q1, q2, _⟩, _⟩ := pU_some h1
    simp only [Option.bind_some, s_inl, lt_]
    have := uz_eq (n := a.toNat) (by omega)
    rw [show ((a.toNat : Nat) : Int) = a by omega] at this
    show _ = _
    rw [this]
  · rw [h1, h2]
    exact ⟨s, rfl⟩
theorem pI_bs {xs r : List Int} {n : Int} (hB : Bs xs) (h : pI xs = some (n, r)) : Bs r ∧ i64 n ∧ ∃ p, xs = p ++ r ∧ 0 < p.length := by
  unfold pI at h
  split at h
  · rename_i m r' he
    cases h
    refine ⟨pU_bs hB he, ?_, (pU_some he).2⟩
    have := (pU_some he).1
    unfold i64 uz
    split <;> omega
  · cases h
theorem Text_is (most : Int) {xs : List Int} (hB : Bs xs) (hl : xs.length < 9223372036854775808) : IsR (column_Reader_Text ⟨xs⟩ most) (pT most xs) := by
  unfold column_Reader_Text pT
  rw [lt_]
  rcases (Uint_is (IntKind.u64.wrap most) hB).cases with ⟨a, r, h1, h2⟩ | ⟨h1, s, h2⟩
  · rw [h1, h2]
    obtain ⟨⟨q1, q2, _⟩, p, hp, _⟩ := pU_some h1
    have hr : r.length ≤ xs.length := by rw [hp]; simp
    simp only [Option.bind_some, s_inl, lt_]
    rw [u64w (by omega) (by omega)]
    obtain ⟨n, rfl⟩ : ∃ n : Nat, a = (n : Int) := ⟨a.toNat, by omega⟩
    by_cases hn : (n : Int) ≤ (r.length : Int)
    · rw [show decide ((n : Int) ≤ (r.length : Int)) = true by simpa using hn, Check_t, if_pos hn]
      simp only [Option.bind_some, s_inl]
      have c1 := cut_nat (xs := r) (l := 0) (u := n) (by omega) (by omega)
      have c2 := cut_nat (xs := r) (l := n) (u := r.length) (by omega) (by omega)
      rw [show ((0 : Nat) : Int) = 0 from rfl, List.drop_zero] at c1
      rw [List.take_length] at c2
      rw [c1]
      simp only [Option.bind_some]
      rw [c2]
      rfl
    · rw [show decide ((n : Int) ≤ (r.length : Int)) = false by simpa using hn, Check_f, if_neg hn]
      exact ⟨_, rfl⟩
  · rw [h1, h2]
    exact ⟨s, rfl⟩
theorem pV_uv : ∀ (k : Nat) (m i n : Nat) (r : List Int), m < 128 ^ (k + 1) → k + i ≤ 9 → m * 2 ^ (7 * i) + n < 18446744073709551616 → (0 < i → 0 < m) → pV i n (uv m ++ r) = some (n + m * 2 ^ (7 * i), r)
  | k, m, i, n, r, h, hi, hlt, h0 => by
    by_cases hm : m < 128
    · rw [uv_small hm, List.singleton_append, pV]
      have h9 : i < 9 ∨ (i = 9 ∧ (m : Int) < 2) := by
        rcases Nat.lt_or_ge i 9 with q | q
        · exact .inl q
        · have : i = 9 := by omega
          subst this
          refine .inr ⟨rfl, ?_⟩
          rcases Nat.lt_or_ge m 2 with q2 | q2
          · omega
          · have : 2 * 2 ^ (7 * 9) ≤ m * 2 ^ (7 * 9) := Nat.mul_le_mul_right _ q2
            omega
      rw [if_pos h9, if_pos (by omega), if_pos (by rcases Nat.eq_zero_or_pos i with q | q; exact .inl q; have := h0 q; exact .inr (by omega)), Int.toNat_natCast, Nat.mod_eq_of_lt hm]
    · rw [uv_large hm, List.cons_append, pV]
      match k, h, hi with
      | 0, h, _ => exact absurd (by simpa using h) hm
      | k + 1, h, hi =>
        rw [if_pos (.inl (by omega)), if_neg (by omega), Int.toNat_natCast, show (m % 128 + 128) % 128 = m % 128 by omega]
        have hp : 2 ^ (7 * (i + 1)) = 128 * 2 ^ (7 * i) := by rw [show 7 * (i + 1) = 7 + 7 * i by omega, Nat.pow_add]
        have hdiv : m / 128 * (128 * 2 ^ (7 * i)) + m % 128 * 2 ^ (7 * i) = m * 2 ^ (7 * i) := by
          rw [← Nat.mul_assoc, ← Nat.add_mul]
          congr 1
          omega
        rw [pV_uv k (m / 128) (i + 1) _ r (by rw [Nat.pow_succ] at h; exact Nat.div_lt_of_lt_mul (by rw [Nat.mul_comm]; exact h)) (by omega) (by rw [hp]; omega) (fun _ => by omega), hp]
        congr 2
        omega
theorem pU_uv {m : Nat} (h : m < 18446744073709551616) (r : List Int) {most : Int} (hm : (m : Int) ≤ most) : pU most (uv m ++ r) = some ((m : Int), r) := by
  unfold pU
  rw [pV_uv 9 m 0 0 r (by omega) (by omega) (by simp; omega) (fun q => absurd q (by omega))]
  simp only [Nat.mul_zero, Nat.pow_zero, Nat.mul_one, Nat.zero_add]
  rw [if_pos hm]
theorem pI_uv {x : Int} (h : i64 x) (r : List Int) : pI (uv (zz x) ++ r) = some (x, r) := by
  unfold pI
  have := zz_lt h
  rw [pU_uv this r (by omega)]
  simp only [Int.toNat_natCast, uz_zz]
end Go.Proofs.YthokgnonmcgkcaaDoor.P
namespace Go.Proofs.YthokgnonmcgkcaaDoor.P
open Go Go.RowKit Go.Proofs.YthokgnonmcgkcaaDoor.E Go.Proofs.YthokgnonmcgkcaaDoor.M
set_option linter.unusedVariables false
set_option linter.unusedSectionVars false
def bl (n : Nat) : Nat := if h : n = 0 then 0 else bl (n / 2) + 1
termination_by n
decreasing_by omega
theorem bl_zero : bl 0 = 0 := by rw [bl, dif_pos rfl]
theorem bl_pos {n : Nat} (h : 0 < n) : bl n = bl (n / 2) + 1 := by rw [bl, dif_neg (by omega)]
theorem bl_lt (n : Nat) : n < 2 ^ bl n := by
  induction n using Nat.strongRecOn with
  | _ n ih =>
    rcases Nat.eq_zero_or_pos n with rfl | h
    · rw [bl_zero]; decide
    · rw [bl_pos h, Nat.pow_succ]
      have := ih (n / 2) (by omega)
      omega
theorem bl_le : ∀ (k n : Nat), n < 2 ^ k → bl n ≤ k
  | 0, n, h => by have : n = 0 := by simpa using h
                  rw [this, bl_zero]; exact Nat.le_refl _
  | k + 1, n, h => by
    rcases Nat.eq_zero_or_pos n with rfl | hp
    · rw [bl_zero]; omega
    · rw [bl_pos hp]
      have := bl_le k (n / 2) (by rw [Nat.pow_succ] at h; omega)
      omega
theorem bl_shift : ∀ (k n : Nat), 2 ^ k ≤ n → bl n = k + bl (n / 2 ^ k)
  | 0, n, _ => by simp
  | k + 1, n, h => by
    have hp : 0 < 2 ^ k := Nat.two_pow_pos k
    rw [Nat.pow_succ] at h
    rw [bl_pos (by omega), bl_shift k (n / 2) (by omega), Nat.div_div_eq_div_mul, Nat.pow_succ, Nat.mul_comm (2 ^ k) 2]
    omega
def V (w : Nat) : List Nat → Nat
  | [] => 0
  | d :: ds => d + 2 ^ w * V w ds
def Lt (w : Nat) (ds : List Nat) : Prop := ∀ d ∈ ds, d < 2 ^ w
theorem Lt.tail {w d : Nat} {ds : List Nat} (h : Lt w (d :: ds)) : d < 2 ^ w ∧ Lt w ds := ⟨h d List.mem_cons_self, fun x hx => h x (List.mem_cons_of_mem _ hx)⟩
theorem V_lt {w : Nat} : ∀ {ds : List Nat}, Lt w ds → V w ds < 2 ^ (ds.length * w)
  | [], _ => by simp [V]
  | d :: ds, h => by
    have h1 := h.tail.1
    have h2 := V_lt h.tail.2
    simp only [V, List.length_cons]
    rw [Nat.add_mul, Nat.one_mul, Nat.pow_add, Nat.mul_comm (2 ^ (ds.length * w))]
    have : 2 ^ w * V w ds + 2 ^ w ≤ 2 ^ w * 2 ^ (ds.length * w) := by
      rw [← Nat.mul_succ]; exact Nat.mul_le_mul_left _ h2
    omega
theorem V_drop {w : Nat} : ∀ {ds : List Nat}, Lt w ds → ∀ i, V w ds / 2 ^ (i * w) = V w (ds.drop i)
  | ds, _, 0 => by simp
  | [], _, i + 1 => by simp [V]
  | d :: ds, h, i + 1 => by
    rw [List.drop_succ_cons, ← V_drop h.tail.2 i, Nat.add_mul, Nat.one_mul, Nat.add_comm (i * w), Nat.pow_add, ← Nat.div_div_eq_div_mul]
    congr 1
    simp only [V]
    rw [Nat.add_mul_div_left _ _ (Nat.two_pow_pos w), Nat.div_eq_of_lt h.tail.1, Nat.zero_add]
theorem V_get {w : Nat} {ds : List Nat} (h : Lt w ds) {i d : Nat} (hd : ds[i]? = some d) : V w ds / 2 ^ (i * w) % 2 ^ w = d := by
  rw [V_drop h, List.drop_eq_getElem_cons (List.getElem?_eq_some_iff.1 hd).1, (List.getElem?_eq_some_iff.1 hd).2, V, Nat.add_mul_mod_self_left]
  exact Nat.mod_eq_of_lt (h d (List.mem_of_getElem? hd))
def by_ (m v : Nat) : List Nat := (List.range m).map fun j => v / 2 ^ (8 * j) % 256
theorem by_length (m v : Nat) : (by_ m v).length = m := by simp [by_]
theorem by_get {m v j : Nat} (h : j < m) : (by_ m v)[j]? = some (v / 2 ^ (8 * j) % 256) := by
  unfold by_
  rw [List.getElem?_map, List.getElem?_range h]; rfl
theorem by_lt (m v : Nat) : Lt 8 (by_ m v) := by
  intro d hd
  unfold by_ at hd
  obtain ⟨j, _, rfl⟩ := List.mem_map.1 hd
  exact Nat.mod_lt _ (by decide)
theorem by_ext {xs ys : List Nat} (hl : xs.length = ys.length) (h : ∀ j : Nat, j < xs.length → xs[j]? = ys[j]?) : xs = ys := by
  apply List.ext_getElem? fun j => ?_
  rcases Nat.lt_or_ge j xs.length with hj | hj
  · exact h j hj
  · rw [List.getElem?_eq_none hj, List.getElem?_eq_none (by omega)]
theorem V_by : ∀ (m v : Nat), v < 2 ^ (8 * m) → V 8 (by_ m v) = v
  | 0, v, h => by have : v = 0 := by simpa using h
                  subst this; rfl
  | m + 1, v, h => by
    have e : by_ (m + 1) v = v % 256 :: by_ m (v / 256) := by
      refine by_ext (by simp [by_length]) fun j hj => ?_
      rw [by_length] at hj
      rw [by_get hj]
      cases j with
      | zero => simp
      | succ j =>
        rw [List.getElem?_cons_succ, by_get (by omega), show 8 * (j + 1) = 8 + 8 * j by omega, Nat.pow_add, Nat.div_div_eq_div_mul]
    rw [e, V, V_by m (v / 256) (by rw [show 8 * (m + 1) = 8 + 8 * m by omega, Nat.pow_add] at h; exact Nat.div_lt_of_lt_mul h)]
    exact Nat.mod_add_div v 256
def bt (v i : Nat) : Nat := v / 2 ^ i % 2
theorem bt_lt (v i : Nat) : bt v i < 2 := Nat.mod_lt _ (by decide)
theorem mod_succ (v i : Nat) : v % 2 ^ (i + 1) = v % 2 ^ i + bt v i * 2 ^ i := by
  rw [Nat.pow_succ, Nat.mod_mul, bt, Nat.mul_comm]
theorem bt_V {w : Nat} {ds : List Nat} (h : Lt w ds) {i k d : Nat} (hd : ds[i]? = some d) (hk : k < w) : bt (V w ds) (i * w + k) = bt d k := by
  unfold bt
  have hm := V_get h hd
  rw [Nat.pow_add, ← Nat.div_div_eq_div_mul]
  conv => rhs; rw [← hm]
  obtain ⟨x, hx⟩ : ∃ x, x = V w ds / 2 ^ (i * w) := ⟨_, rfl⟩
  rw [← hx]
  obtain ⟨j, rfl⟩ : ∃ j, w = k + (j + 1) := ⟨w - k - 1, by omega⟩
  rw [Nat.pow_add, Nat.mod_mul_right_div_self, Nat.pow_succ, Nat.mul_comm (2 ^ j) 2, Nat.mod_mul_right_mod]
theorem part_same (v i q w : Nat) (hw : 0 < w) (hq : q ≠ i / w) : v % 2 ^ (i + 1) / 2 ^ (q * w) % 2 ^ w = v % 2 ^ i / 2 ^ (q * w) % 2 ^ w := by
  rw [mod_succ]
  rcases Nat.lt_or_ge (i / w) q with hlt | hge
  · -- above
    have h1 : (i / w + 1) * w ≤ q * w := Nat.mul_le_mul_right _ hlt
    have h2 : i < (i / w + 1) * w := by have h := Nat.div_add_mod i w; have h' := Nat.mod_lt i hw; rw [Nat.add_mul, Nat.one_mul, Nat.mul_comm (i / w)]; omega
    have h3 : 2 ^ (i + 1) ≤ 2 ^ (q * w) := Nat.pow_le_pow_right (by decide) (by omega)
    have h4 : v % 2 ^ i < 2 ^ i := Nat.mod_lt _ (Nat.two_pow_pos i)
    have h5 := bt_lt v i
    have h6 : bt v i * 2 ^ i ≤ 1 * 2 ^ i := Nat.mul_le_mul_right _ (by omega)
    rw [Nat.pow_succ] at h3
    rw [Nat.div_eq_of_lt (by omega), Nat.div_eq_of_lt (by omega)]
  · -- below
    have hlt : q < i / w := by omega
    have h1 : (q + 1) * w ≤ i / w * w := Nat.mul_le_mul_right _ hlt
    have h2 : i / w * w ≤ i := Nat.div_mul_le_self i w
    obtain ⟨j, rfl⟩ : ∃ j, i = q * w + w + j := ⟨i - (q * w + w), by rw [Nat.add_mul] at h1; omega⟩
    have e : bt v (q * w + w + j) * 2 ^ (q * w + w + j) = 2 ^ (q * w) * (2 ^ w * (2 ^ j * bt v (q * w + w + j))) := by
      rw [Nat.pow_add, Nat.pow_add]; ac_rfl
    rw [e, Nat.add_mul_div_left _ _ (Nat.two_pow_pos _), Nat.add_mul_mod_self_left]
theorem part_new (v i w : Nat) (hw : 0 < w) : v % 2 ^ (i + 1) / 2 ^ (i / w * w) % 2 ^ w = v % 2 ^ i / 2 ^ (i / w * w) % 2 ^ w + bt v i * 2 ^ (i % w) ∧ v % 2 ^ i / 2 ^ (i / w * w) % 2 ^ w < 2 ^ (i % w) := by
  obtain ⟨q, hq⟩ : ∃ q, q = i / w * w := ⟨_, rfl⟩
  obtain ⟨k, hk⟩ : ∃ k, k = i % w := ⟨_, rfl⟩
  have hi : i = q + k := by rw [hq, hk, Nat.mul_comm]; exact (Nat.div_add_mod i w).symm
  have hkw : k < w := by rw [hk]; exact Nat.mod_lt _ hw
  rw [← hq, ← hk, mod_succ, hi]
  have hlt : v % 2 ^ (q + k) / 2 ^ q < 2 ^ k := Nat.div_lt_of_lt_mul (by rw [← Nat.pow_add]; exact Nat.mod_lt _ (Nat.two_pow_pos _))
  have hkk : 2 ^ (k + 1) ≤ 2 ^ w := Nat.pow_le_pow_right (by decide) hkw
  rw [Nat.pow_succ] at hkk
  have hb := bt_lt v (q + k)
  have hb2 : bt v (q + k) * 2 ^ k ≤ 1 * 2 ^ k := Nat.mul_le_mul_right _ (by omega)
  have e : bt v (q + k) * 2 ^ (q + k) = 2 ^ q * (bt v (q + k) * 2 ^ k) := by rw [Nat.pow_add, ← Nat.mul_assoc, ← Nat.mul_assoc, Nat.mul_comm (bt v (q + k))]
  rw [e, Nat.add_mul_div_left _ _ (Nat.two_pow_pos q), Nat.mod_eq_of_lt (show v % 2 ^ (q + k) / 2 ^ q + bt v (q + k) * 2 ^ k < 2 ^ w by omega), Nat.mod_eq_of_lt (show v % 2 ^ (q + k) / 2 ^ q < 2 ^ w by omega)]
  exact ⟨rfl, hlt⟩
end Go.Proofs.YthokgnonmcgkcaaDoor.P
namespace Go.Proofs.YthokgnonmcgkcaaDoor.P
open Go Go.RowKit Go.Proofs.YthokgnonmcgkcaaDoor.E Go.Proofs.YthokgnonmcgkcaaDoor.M
set_option linter.unusedVariables false
set_option linter.unusedSectionVars false
def b0 (l : List Int) : List Int := (l.map fun x => uv (zz x)).flatten
def lastOf : Int → List Int → Int
  | a, [] => a
  | _, x :: l => lastOf x l
def bD : Int → List Int → List Int
  | _, [] => []
  | a, x :: l => uv (zz (IntKind.i64.wrap (x - a))) ++ bD x l
def bR : Nat → List Int → List Int
  | _, [] => []
  | k, [x] => uv (zz x) ++ uv k
  | k, x :: y :: l => if y = x then bR (k + 1) (y :: l) else uv (zz x) ++ uv k ++ bR 0 (y :: l)
def mn : Int → List Int → Int
  | m, [] => m
  | m, x :: l => mn (if x < m then x else m) l
def ds (lo : Int) (l : List Int) : List Nat := l.map fun x => (x - lo).toNat
def wdt (D : List Nat) : Nat := D.foldl (fun w d => if w < bl d then bl d else w) 0
def ofN (l : List Nat) : List Int := l.map fun (n : Nat) => (n : Int)
def pk : List Int → List Int
  | [] => []
  | x :: l => uv (zz (mn x l)) ++ [(wdt (ds (mn x l) (x :: l)) : Int)] ++ ofN (by_ (((x :: l).length * wdt (ds (mn x l) (x :: l)) + 7) / 8) (V (wdt (ds (mn x l) (x :: l))) (ds (mn x l) (x :: l))))
def body : Nat → List Int → List Int
  | 0, l => b0 l
  | 1, l => bD 0 l
  | 2, l => bR 0 l
  | _, l => pk l
def asL (w : Nat) (l : List Int) : List Int := (w : Int) :: (uv l.length ++ body w l)
def I64 (l : List Int) : Prop := ∀ x ∈ l, i64 x
theorem I64.get {l : List Int} (h : I64 l) {i : Nat} {x : Int} (hx : l[i]? = some x) : i64 x := h x (List.mem_of_getElem? hx)
theorem len_b0 : ∀ {l : List Int}, I64 l → (b0 l).length ≤ 10 * l.length
  | [], _ => by simp [b0]
  | x :: l, h => by
    have h1 := uv_length64 (zz_lt (h x List.mem_cons_self))
    have h2 := len_b0 (l := l) fun y hy => h y (List.mem_cons_of_mem _ hy)
    simp only [b0, List.map_cons, List.flatten_cons, List.length_append, List.length_cons] at h2 ⊢
    omega
theorem len_bD : ∀ (l : List Int) (a : Int), (bD a l).length ≤ 10 * l.length
  | [], _ => by simp [bD]
  | x :: l, a => by
    have h1 := uv_length64 (zz_lt (i64_wrap (x - a)))
    have h2 := len_bD l x
    simp only [bD, List.length_append, List.length_cons]
    omega
theorem len_bR : ∀ (l : List Int) (k : Nat), I64 l → k + l.length < 18446744073709551616 → (bR k l).length ≤ 20 * l.length
  | [], _, _, _ => by simp [bR]
  | [x], k, h, hk => by
    have h1 := uv_length64 (zz_lt (h x List.mem_cons_self))
    have h2 := uv_length64 (n := k) (by simp at hk; omega)
    simp only [bR, List.length_append, List.length_cons, List.length_nil]
    omega
  | x :: y :: l, k, h, hk => by
    have h1 := uv_length64 (zz_lt (h x List.mem_cons_self))
    simp only [List.length_cons] at hk
    have h2 := uv_length64 (n := k) (by omega)
    have h' : I64 (y :: l) := fun z hz => h z (List.mem_cons_of_mem _ hz)
    unfold bR
    split
    · have := len_bR (y :: l) (k + 1) h' (by simp only [List.length_cons]; omega)
      simp only [List.length_cons] at this ⊢
      omega
    · have := len_bR (y :: l) 0 h' (by simp only [List.length_cons]; omega)
      simp only [List.length_append, List.length_cons] at this ⊢
      omega
theorem b0_snoc (l : List Int) (x : Int) : b0 (l ++ [x]) = b0 l ++ uv (zz x) := by simp [b0]
theorem bD_snoc : ∀ (l : List Int) (a x : Int), bD a (l ++ [x]) = bD a l ++ uv (zz (IntKind.i64.wrap (x - lastOf a l)))
  | [], a, x => by simp [bD, lastOf]
  | y :: l, a, x => by simp [bD, lastOf, bD_snoc l y x]
theorem lastOf_snoc : ∀ (l : List Int) (a x : Int), lastOf a (l ++ [x]) = x
  | [], a, x => rfl
  | y :: l, a, x => lastOf_snoc l y x
theorem take_snoc {l : List Int} {k : Nat} {x : Int} (h : l[k]? = some x) : l.take (k + 1) = l.take k ++ [x] := by rw [List.take_add_one, h]; rfl
theorem I64.take {l : List Int} (h : I64 l) (k : Nat) : I64 (l.take k) := fun x hx => h x (List.mem_of_mem_take hx)
section
variable {l pre : List Int} (hl : l.length ≤ 4096) (hi : I64 l) (hp : pre.length ≤ 20)
include hl hi hp
theorem col0 : loop (fun s : List Int × Int => column_As_l1 l s.1 s.2) (pre, 0) = some (pre ++ b0 l) := by
  have := loop_to (b := fun s : List Int × Int => column_As_l1 l s.1 s.2) (fun k => (pre ++ b0 (l.take k), (k : Int))) (t := pre ++ b0 l) l.length (fun k hk => by
    have hx := List.getElem?_eq_getElem hk
    have hlen := len_b0 (hi.take k)
    rw [List.length_take] at hlen
    show column_As_l1 l (pre ++ b0 (l.take k)) (k : Int) = _
    unfold column_As_l1
    rw [if_pos (by simp only [decide_eq_true_eq]; omega), at_int rfl hx]
    simp only [Option.bind_some]
    rw [Int_app (hi.get hx) _ (by simp only [List.length_append]; omega)]
    simp only [Option.bind_some, lt_]
    rw [w64 (by omega) (by omega), take_snoc hx, b0_snoc, List.append_assoc]
    rfl) (by
    show column_As_l1 l (pre ++ b0 (l.take l.length)) (l.length : Int) = _
    unfold column_As_l1
    rw [if_neg (by simp), List.take_length])
  simpa [b0] using this
omit hi in
theorem col1 : loop (fun s : List Int × Int × Int => column_As_l2 l s.1 s.2.1 s.2.2) (pre, 0, 0) = some (pre ++ bD 0 l) := by
  have := loop_to (b := fun s : List Int × Int × Int => column_As_l2 l s.1 s.2.1 s.2.2) (fun k => (pre ++ bD 0 (l.take k), lastOf 0 (l.take k), (k : Int))) (t := pre ++ bD 0 l) l.length (fun k hk => by
    have hx := List.getElem?_eq_getElem hk
    have hlen := len_bD (l.take k) 0
    rw [List.length_take] at hlen
    show column_As_l2 l (pre ++ bD 0 (l.take k)) (lastOf 0 (l.take k)) (k : Int) = _
    unfold column_As_l2
    rw [if_pos (by simp only [decide_eq_true_eq]; omega), at_int rfl hx]
    simp only [Option.bind_some, lt_]
    rw [Int_app (i64_wrap _) _ (by simp only [List.length_append]; omega)]
    simp only [Option.bind_some]
    rw [w64 (n := (k : Int) + 1) (by omega) (by omega), take_snoc hx, bD_snoc, lastOf_snoc, List.append_assoc]
    rfl) (by
    show column_As_l2 l (pre ++ bD 0 (l.take l.length)) (lastOf 0 (l.take l.length)) (l.length : Int) = _
    unfold column_As_l2
    rw [if_neg (by simp), List.take_length])
  simpa [bD, lastOf] using this
omit hi in
end
theorem run_split (x : Int) : ∀ rest : List Int, ∃ (m : Nat) (tl : List Int), rest = List.replicate m x ++ tl ∧ ∀ y, tl[0]? = some y → y ≠ x
  | [] => ⟨0, [], rfl, by simp⟩
  | y :: rest => by
    by_cases h : y = x
    · obtain ⟨m, tl, h1, h2⟩ := run_split x rest
      exact ⟨m + 1, tl, by rw [h, h1]; rfl, h2⟩
    · exact ⟨0, y :: rest, rfl, fun z hz => by cases hz; exact h⟩
theorem bR_run (x : Int) (tl : List Int) (h : ∀ y, tl[0]? = some y → y ≠ x) : ∀ (m k : Nat), bR k (x :: (List.replicate m x ++ tl)) = uv (zz x) ++ uv (k + m) ++ bR 0 tl
  | 0, k => by
    cases tl with
    | nil => simp [bR]
    | cons y tl =>
      have := h y rfl
      simp only [List.replicate_zero, List.nil_append, bR, if_neg this, Nat.add_zero]
  | m + 1, k => by
    rw [List.replicate_succ, List.cons_append, bR, if_pos rfl, bR_run x tl h m (k + 1), show k + 1 + m = k + (m + 1) by omega]
section
variable {l pre : List Int} (hl : l.length ≤ 4096) (hi : I64 l) (hp : pre.length ≤ 20)
include hl hi hp
theorem col2 : loop (fun s : List Int × Int => column_As_l3 l s.1 s.2) (pre, 0) = some (pre ++ bR 0 l) := by
  obtain ⟨t, ht, rfl⟩ := loop_good (b := fun s : List Int × Int => column_As_l3 l s.1 s.2) (s := (pre, 0))
    (fun s => ∃ i : Nat, s.2 = i ∧ i ≤ l.length ∧ s.1.length ≤ 20 + 20 * i ∧ s.1 ++ bR 0 (l.drop i) = pre ++ bR 0 l)
    (fun s => ((l.length : Int) - s.2).toNat) (fun t => t = pre ++ bR 0 l) ⟨0, rfl, by omega, by simpa using hp, by simp⟩ (by
      rintro ⟨acc, q⟩ ⟨i, hq, hil, hacc, hinv⟩
      simp only at hq hacc hinv
      subst hq
      show (∃ s', column_As_l3 l acc (i : Int) = some (.inl s') ∧ _) ∨ ∃ t, column_As_l3 l acc (i : Int) = some (.inr t) ∧ _
      unfold column_As_l3
      by_cases hlt : i < l.length
      · rw [if_pos (by simp only [decide_eq_true_eq]; omega)]
        have hx := List.getElem?_eq_getElem hlt
        obtain ⟨x, hxe⟩ : ∃ x, x = l[i] := ⟨_, rfl⟩
        rw [← hxe] at hx
        have hd : l.drop i = x :: l.drop (i + 1) := by rw [List.drop_eq_getElem_cons hlt, ← hxe]
        obtain ⟨m, tl, hm, htl⟩ := run_split x (l.drop (i + 1))
        have hlen : l.length = i + 1 + m + tl.length := by
          have := congrArg List.length hm
          simp only [List.length_drop, List.length_append, List.length_replicate] at this
          omega
        have hget : ∀ k, k < m → l[i + 1 + k]? = some x := by
          intro k hk
          have : (l.drop (i + 1))[k]? = some x := by rw [hm, List.getElem?_append_left (by simpa using hk)]; simp [hk]
          rwa [List.getElem?_drop] at this
        have hdr : l.drop (i + 1 + m) = tl := by
          rw [← List.drop_drop, hm]
          exact List.drop_left' (by simp)
        -- how many are alike
        have hin := loop_to (b := fun s : Int => column_As_l4 l (i : Int) s) (fun k => ((k + 1 : Nat) : Int)) (t := ((m + 1 : Nat) : Int)) m (fun k hk => by
          show column_As_l4 l (i : Int) ((k + 1 : Nat) : Int) = _
          unfold column_As_l4
          rw [lt_, w64 (by omega) (by omega), if_pos (by simp only [decide_eq_true_eq]; omega), at_int (n := i + 1 + k) (by omega) (hget k hk), at_int rfl hx]
          simp only [Option.bind_some]
          unfold column_As_j1
          rw [if_pos (by simp), lt_, w64 (by omega) (by omega)]
          rfl) (by
          show column_As_l4 l (i : Int) ((m + 1 : Nat) : Int) = _
          unfold column_As_l4
          rw [lt_, w64 (by omega) (by omega)]
          by_cases htz : tl.length = 0
          · rw [if_neg (by simp only [decide_eq_true_eq]; omega)]
            unfold column_As_j1
            rw [if_neg (by simp)]
          · obtain ⟨y, hy⟩ : ∃ y, tl[0]? = some y := ⟨_, List.getElem?_eq_getElem (by omega)⟩
            have hy' : l[i + 1 + m]? = some y := by rw [← hdr, List.getElem?_drop] at hy; exact hy
            rw [if_pos (by simp only [decide_eq_true_eq]; omega), at_int (n := i + 1 + m) (by omega) hy', at_int rfl hx]
            simp only [Option.bind_some]
            unfold column_As_j1
            rw [if_neg (by simpa using htl y hy)])
        rw [show (1 : Int) = ((0 + 1 : Nat) : Int) from rfl, hin]
        simp only [Option.bind_some]
        unfold column_As_x4_7 column_As_b5
        have hz := uv_length64 (zz_lt (hi.get hx))
        have hum := uv_length64 (n := m) (by omega)
        rw [at_int rfl hx]
        simp only [Option.bind_some]
        rw [Int_app (hi.get hx) _ (by omega)]
        simp only [Option.bind_some, lt_]
        rw [w64 (n := ((m + 1 : Nat) : Int) - 1) (by omega) (by omega), show ((m + 1 : Nat) : Int) - 1 = (m : Int) by omega, u64w (by omega) (by omega), Uint_app m _ (by omega) (by simp only [List.length_append]; omega)]
        simp only [Option.bind_some]
        rw [w64 (by omega) (by omega)]
        refine .inl ⟨_, rfl, ⟨i + 1 + m, ?_, by omega, ?_, ?_⟩, ?_⟩
        · simp only; omega
        · simp only [List.length_append]; omega
        · rw [hdr, ← hinv, hd, hm, bR_run x tl htl m 0]
          simp
        · simp only; omega
      · rw [if_neg (by simp only [decide_eq_true_eq]; omega)]
        refine .inr ⟨_, rfl, ?_⟩
        rw [← hinv, show i = l.length by omega, List.drop_length]
        simp [bR])
  exact ht
end
end Go.Proofs.YthokgnonmcgkcaaDoor.P
