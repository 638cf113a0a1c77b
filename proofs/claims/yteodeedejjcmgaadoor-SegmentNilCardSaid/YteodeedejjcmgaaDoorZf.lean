/- Texts of the claim, joined: what it uses of Mel, Drl, Mrl, Dsc, Msc, Vc, Dsw. -/
import Derived.Test.YteodeedejjcmgaaDoorZe
import Derived.Test.YteodeedejjcmgaaDoorProg
import Derived.IntWalk
namespace Go.Proofs.YteodeedejjcmgaaDoor.M
open Go Go.RowKit Go.Proofs.YteodeedejjcmgaaDoor.E
set_option linter.unusedVariables false
set_option maxRecDepth 100000
set_option maxHeartbeats 4000000
set_option linter.unusedSimpArgs false
theorem F_event_Lay {r : World} {L : List HP} {w : World} {Z : Nat → Prop} {wz : World} (a0 : (List Int)) (a1 : (List S44)) (A0 : Option Addr) (n0 : Nat) (c0 : Nat) (A1 : Option Addr) (n1 : Nat) (c1 : Nat) {y : ((List Int))} (hF : event_Lay a0 a1 = some y) (ha1 : Imm Z wz k44 A1 n1 c1 a1) (hG0 : Imm Z wz (kI .u32) (some ⟨0, 0, none⟩) 16 16 gl_page_table) (hS : SH r (own (kI .u8) 5 A0 n0 c0 a0 :: zone Z wz :: L) w) :
  Ret Tryd.prog 26 #[.slice A0 n0 c0, .slice A1 n1 c1] w fun v w' => ∃ (Z' : Nat → Prop) (wz' : World) (B0 : Option Addr) (m0 : Nat) (d0 : Nat), v = .slice B0 m0 d0 ∧ Sub Z wz Z' wz' ∧ SH r (own (kI .u8) 5 B0 m0 d0 y :: zone Z' wz' :: L) w' := by
 refine enter Tryd.func26 rfl Tryd.ntmps26 [(0, .slice A0 n0 c0), (1, .slice A1 n1 c1)] rfl (by simp) ?_
 intro ac hA Qf hQ hQn
 unfold event_Lay at hF
 refine ws fun K101 hK101 => ?_
 refine x_m hA rfl fun ac hA => ?_
 refine wn (hK101 _ _ ?_)
 refine ws fun K102 hK102 => ?_
 refine x_m hA rfl fun ac hA => ?_
 refine x_m hA rfl fun ac hA => ?_
 refine x_m hA rfl fun ac hA => ?_
 refine wn (hK102 _ _ ?_)
 refine ws fun K103 hK103 => ?_
 refine x_m hA rfl fun ac hA => ?_
 refine wn (hK103 _ _ ?_)
 refine ws fun K104 hK104 => ?_
 refine x_m hA rfl fun ac hA => ?_
 refine wn (hK104 _ _ ?_)
 refine wp_seq_k fun K105 hK105 => ?_
 refine ws fun K10997 hK10997 => ?_
 refine x_m hA rfl fun ac hA => ?_
 refine x_len Tryd.underlying22 (hS.imm 1 ha1 rfl).2.1 hA (fun ac hA => ?_) rfl rfl rfl rfl rfl
 refine x_m hA rfl fun ac hA => ?_
 refine wn (hK10997 _ _ ?_)
 refine wp_block_k fun Kx10998 hKx10998 => ?_
 have hb1 : ∀ (l16433 : (List Int)) (l16437 : (List Int)) (l16441 : (List Int)) (l16445 : (List (List UInt8))) (l16449 : (List Nat)), event_Lay_b1 a0 l16433 l16437 l16441 l16445 l16449 = some y → ∀ (A16434 : Option Addr) (n16435 : Nat) (c16436 : Nat) (A16438 : Option Addr) (n16439 : Nat) (c16440 : Nat) (A16442 : Option Addr) (n16443 : Nat) (c16444 : Nat) (A16446 : Option Addr) (n16447 : Nat) (c16448 : Nat) (A16450 : Option Addr) (n16451 : Nat) (c16452 : Nat) (ac : Act) (w : World), FR 72 [] ac [(0, .slice A0 n0 c0), (5, .slice A16434 n16435 c16436), (6, .slice A16438 n16439 c16440), (7, .slice A16442 n16443 c16444), (8, .slice A16446 n16447 c16448), (9, .slice A16450 n16451 c16452)] → SH r (own (kI .u8) 5 A0 n0 c0 a0 :: own (kI .i64) 2 A16434 n16435 c16436 l16433 :: own (kI .i64) 2 A16438 n16439 c16440 l16437 :: own (kI .i64) 2 A16442 n16443 c16444 l16441 :: own kS 9 A16446 n16447 c16448 l16445 :: own kF 42 A16450 n16451 c16452 l16449 :: zone Z wz :: L) w → Kx10998 ac w := by
  intro l16433 l16437 l16441 l16445 l16449 hF A16434 n16435 c16436 A16438 n16439 c16440 A16442 n16443 c16444 A16446 n16447 c16448 A16450 n16451 c16452 ac w hA hS
  unfold event_Lay_b1 at hF
  refine hKx10998 _ _ ?_
  refine hK105 _ _ ?_
  refine ws fun K16453 hK16453 => ?_
  refine x_m hA rfl fun ac hA => ?_
  refine wn (hK16453 _ _ ?_)
  refine wp_seq_k fun K16454 hK16454 => ?_
  refine ws fun K16694 hK16694 => ?_
  refine x_m hA rfl fun ac hA => ?_
  obtain ⟨y16695, h16696, hF⟩ := bnd hF
  refine x_call en45 hA (F_column_Ints (L := own (kI .u8) 5 A0 n0 c0 a0 :: own (kI .i64) 2 A16434 n16435 c16436 l16433 :: own (kI .i64) 2 A16438 n16439 c16440 l16437 :: own (kI .i64) 2 A16442 n16443 c16444 l16441 :: own kS 9 A16446 n16447 c16448 l16445 :: own kF 42 A16450 n16451 c16452 l16449 :: zone Z wz :: L) l16433 A16434 n16435 c16436 h16696 (RdL.own 1 rfl (hS.dropN 0)) hS) (fun v ac w hR hA => ?_) rfl rfl rfl rfl rfl
  obtain ⟨B16697, m16698, d16699, rfl, hS⟩ := hR
  refine x_m hA rfl fun ac hA => ?_
  obtain ⟨y16700, h16701, hF⟩ := bnd hF
  refine x_call en45 hA (F_column_Ints (L := own (kI .u8) 5 B16697 m16698 d16699 y16695 :: own (kI .u8) 5 A0 n0 c0 a0 :: own (kI .i64) 2 A16434 n16435 c16436 l16433 :: own (kI .i64) 2 A16438 n16439 c16440 l16437 :: own (kI .i64) 2 A16442 n16443 c16444 l16441 :: own kS 9 A16446 n16447 c16448 l16445 :: own kF 42 A16450 n16451 c16452 l16449 :: zone Z wz :: L) l16437 A16438 n16439 c16440 h16701 (RdL.own 3 rfl (hS.dropN 0)) hS) (fun v ac w hR hA => ?_) rfl rfl rfl rfl rfl
  obtain ⟨B16702, m16703, d16704, rfl, hS⟩ := hR
  refine x_m hA rfl fun ac hA => ?_
  obtain ⟨y16705, h16706, hF⟩ := bnd hF
  refine x_call en45 hA (F_column_Ints (L := own (kI .u8) 5 B16702 m16703 d16704 y16700 :: own (kI .u8) 5 B16697 m16698 d16699 y16695 :: own (kI .u8) 5 A0 n0 c0 a0 :: own (kI .i64) 2 A16434 n16435 c16436 l16433 :: own (kI .i64) 2 A16438 n16439 c16440 l16437 :: own (kI .i64) 2 A16442 n16443 c16444 l16441 :: own kS 9 A16446 n16447 c16448 l16445 :: own kF 42 A16450 n16451 c16452 l16449 :: zone Z wz :: L) l16441 A16442 n16443 c16444 h16706 (RdL.own 5 rfl (hS.dropN 0)) hS) (fun v ac w hR hA => ?_) rfl rfl rfl rfl rfl
  obtain ⟨B16707, m16708, d16709, rfl, hS⟩ := hR
  refine x_m hA rfl fun ac hA => ?_
  obtain ⟨y16710, h16711, hF⟩ := bnd hF
  refine x_call en46 hA (F_column_Texts (L := own (kI .u8) 5 B16707 m16708 d16709 y16705 :: own (kI .u8) 5 B16702 m16703 d16704 y16700 :: own (kI .u8) 5 B16697 m16698 d16699 y16695 :: own (kI .u8) 5 A0 n0 c0 a0 :: own (kI .i64) 2 A16434 n16435 c16436 l16433 :: own (kI .i64) 2 A16438 n16439 c16440 l16437 :: own (kI .i64) 2 A16442 n16443 c16444 l16441 :: own kS 9 A16446 n16447 c16448 l16445 :: own kF 42 A16450 n16451 c16452 l16449 :: zone Z wz :: L) l16445 A16446 n16447 c16448 h16711 (RdL.own 7 rfl (hS.dropN 0)) hS) (fun v ac w hR hA => ?_) rfl rfl rfl rfl rfl
  obtain ⟨B16712, m16713, d16714, rfl, hS⟩ := hR
  refine x_m hA rfl fun ac hA => ?_
  obtain ⟨y16715, h16716, hF⟩ := bnd hF
  refine x_call en47 hA (F_column_Reals (L := own (kI .u8) 5 B16712 m16713 d16714 y16710 :: own (kI .u8) 5 B16707 m16708 d16709 y16705 :: own (kI .u8) 5 B16702 m16703 d16704 y16700 :: own (kI .u8) 5 B16697 m16698 d16699 y16695 :: own (kI .u8) 5 A0 n0 c0 a0 :: own (kI .i64) 2 A16434 n16435 c16436 l16433 :: own (kI .i64) 2 A16438 n16439 c16440 l16437 :: own (kI .i64) 2 A16442 n16443 c16444 l16441 :: own kS 9 A16446 n16447 c16448 l16445 :: own kF 42 A16450 n16451 c16452 l16449 :: zone Z wz :: L) l16449 A16450 n16451 c16452 h16716 (RdL.own 9 rfl (hS.dropN 0)) hS) (fun v ac w hR hA => ?_) rfl rfl rfl rfl rfl
  obtain ⟨B16717, m16718, d16719, rfl, hS⟩ := hR
  replace hS := hS.pk 11
  replace hS := hS.pk 5
  obtain ⟨Z16720, wz16721, hS, h16722, sb16723⟩ := SH.freeze (n := m16698) (c := d16699) (A := B16697) hS
  replace hS := hS.pk 0
  replace hS := hS.pk 4
  obtain ⟨Z16724, wz16725, hS, h16726, sb16727⟩ := SH.freeze (n := m16703) (c := d16704) (A := B16702) hS
  have h16728 := Imm.sub h16722 sb16727
  replace hS := hS.pk 0
  replace hS := hS.pk 3
  obtain ⟨Z16729, wz16730, hS, h16731, sb16732⟩ := SH.freeze (n := m16708) (c := d16709) (A := B16707) hS
  have h16733 := Imm.sub h16728 sb16732
  have h16734 := Imm.sub h16726 sb16732
  replace hS := hS.pk 0
  replace hS := hS.pk 2
  obtain ⟨Z16735, wz16736, hS, h16737, sb16738⟩ := SH.freeze (n := m16713) (c := d16714) (A := B16712) hS
  have h16739 := Imm.sub h16733 sb16738
  have h16740 := Imm.sub h16734 sb16738
  have h16741 := Imm.sub h16731 sb16738
  replace hS := hS.pk 0
  replace hS := hS.pk 1
  obtain ⟨Z16742, wz16743, hS, h16744, sb16745⟩ := SH.freeze (n := m16718) (c := d16719) (A := B16717) hS
  have h16746 := Imm.sub h16739 sb16745
  have h16747 := Imm.sub h16740 sb16745
  have h16748 := Imm.sub h16741 sb16745
  have h16749 := Imm.sub h16737 sb16745
  refine x_bsl (d := (kM Z16742 wz16743 (kI .u8))) (e := 24) (ps := #[(0, .slice B16697 m16698 d16699), (1, .slice B16702 m16703 d16704), (2, .slice B16707 m16708 d16709), (3, .slice B16712 m16713 d16714), (4, .slice B16717 m16718 d16719)]) (cells := [.slice B16697 m16698 d16699, .slice B16702 m16703 d16704, .slice B16707 m16708 d16709, .slice B16712 m16713 d16714, .slice B16717 m16718 d16719]) (xs := [y16695, y16700, y16705, y16710, y16715]) (fun w => by kernel_rfl) rfl ⟨[.slice B16697 m16698 d16699], _, rfl, ⟨_, _, _, rfl, h16746⟩, ⟨[.slice B16702 m16703 d16704], _, rfl, ⟨_, _, _, rfl, h16747⟩, ⟨[.slice B16707 m16708 d16709], _, rfl, ⟨_, _, _, rfl, h16748⟩, ⟨[.slice B16712 m16713 d16714], _, rfl, ⟨_, _, _, rfl, h16749⟩, ⟨[.slice B16717 m16718 d16719], _, rfl, ⟨_, _, _, rfl, h16744⟩, rfl⟩⟩⟩⟩⟩ hA hS (fun g16750 ac w hS hA => ?_) rfl rfl rfl rfl rfl rfl
  refine x_len Tryd.underlying96 (hS.rd 0 rfl).2.1 hA (fun ac hA => ?_) rfl rfl rfl rfl rfl
  refine x_m hA rfl fun ac hA => ?_
  refine wn (hK16694 _ _ ?_)
  refine wp_block_k fun Kx16751 hKx16751 => ?_
  have hb2 : ∀ (l16840 : (List Int)), event_Lay_b2 a0 l16840 = some y → ∀ (A16841 : Option Addr) (n16842 : Nat) (c16843 : Nat) (ac : Act) (w : World), FR 72 [] ac [(0, .slice A0 n0 c0), (12, .slice A16841 n16842 c16843)] → SH r (own (kI .u8) 5 A0 n0 c0 a0 :: own (kI .u8) 5 A16841 n16842 c16843 l16840 :: zone Z16742 wz16743 :: L) w → Kx16751 ac w := by
   intro l16840 hF A16841 n16842 c16843 ac w hA hS
   unfold event_Lay_b2 at hF
   refine hKx16751 _ _ ?_
   refine hK16454 _ _ ?_
   refine ws fun K16844 hK16844 => ?_
   refine x_m hA rfl fun ac hA => ?_
   refine x_m hA rfl fun ac hA => ?_
   obtain ⟨y16845, h16846, hF⟩ := bnd hF
   refine x_call en30 hA (F_page_Lay (L := own (kI .u8) 5 A16841 n16842 c16843 l16840 :: zone Z16742 wz16743 :: L) a0 101 l16840 A0 n0 c0 A16841 n16842 c16843 h16846 1 rfl (RdL.own 0 rfl (hS.dropN 1)) (Imm.sub hG0 (Sub.trans (Sub.trans (Sub.trans (Sub.trans sb16723 sb16727) sb16732) sb16738) sb16745)) hS) (fun v ac w hR hA => ?_) rfl rfl rfl rfl rfl
   obtain ⟨B16847, m16848, d16849, rfl, hS⟩ := hR
   refine x_m hA rfl fun ac hA => ?_
   refine wn (hK16844 _ _ ?_)
   refine wp_ret ?_
   replace hS := hS.drop 1
   replace hS := hS.pk 1
   replace hS := hS.pk 1
   cases hF
   refine hQ _ _ ?_
   refine lv Tryd.results26 hA rfl ?_
   exact ⟨Z16742, wz16743, B16847, m16848, d16849, rfl, (Sub.trans (Sub.trans (Sub.trans (Sub.trans sb16723 sb16727) sb16732) sb16738) sb16745), hS⟩
  obtain ⟨t16916, hl16916, hF⟩ := bnd hF
  have hx16916_2 : ∀ (l16913 : (List Int)), (l16913) = t16916 → ∀ (A16914 : Option Addr) (n16915 : Nat) (c16916 : Nat) (ac : Act) (w : World), FR 72 [] ac [(0, .slice A0 n0 c0), (12, .slice A16914 n16915 c16916)] → SH r (own (kI .u8) 5 A0 n0 c0 a0 :: own (kI .u8) 5 A16914 n16915 c16916 l16913 :: zone Z16742 wz16743 :: L) w → Kx16751 ac w := by
   intro l16913 ht A16914 n16915 c16916 ac w hA hS
   subst ht
   replace hF : event_Lay_x1_2 a0 l16913 = some y := hF
   unfold event_Lay_x1_2 at hF
   exact hb2 l16913 hF A16914 n16915 c16916 ac w (hA.sub _ rfl) hS
  replace hS := SH.nil_own (d := (kI .u8)) (e := 5) hS
  replace hS := hS.drop 4
  replace hS := hS.drop 4
  replace hS := hS.drop 4
  replace hS := hS.drop 4
  replace hS := hS.drop 4
  replace hS := hS.pk 2
  replace hS := hS.pk 2
  replace hS := hS.pk 2
  replace hS := hS.pk 3
  refine wp_loop_fn hl16916 (fun s ac w => ∃ (A16884 : Option Addr) (n16885 : Nat) (c16886 : Nat), FR 72 [] ac [(0, .slice A0 n0 c0), (12, .slice A16884 n16885 c16886), (58, .slice (some ⟨g16750, 0, none⟩) 5 5), (59, .int .i64 ([y16695, y16700, y16705, y16710, y16715].length : Int)), (60, .int .i64 s.2)] ∧ SH r (own (kI .u8) 5 A0 n0 c0 a0 :: own (kI .u8) 5 A16884 n16885 c16886 s.1 :: own (kM Z16742 wz16743 (kI .u8)) 24 (some ⟨g16750, 0, none⟩) 5 5 [y16695, y16700, y16705, y16710, y16715] :: zone Z16742 wz16743 :: L) w) ⟨none, 0, 0, hA.sub _ rfl, hS⟩ ?_
  intro N16916 s16916 o16916 hF N16916_ T16916_ ac w hLab
  obtain ⟨l16883, x16887⟩ := s16916
  replace hF : event_Lay_l1 y16695 y16700 y16705 y16710 y16715 l16883 x16887 = some o16916 := hF
  unfold event_Lay_l1 at hF
  try dsimp only at hLab
  obtain ⟨A16884, n16885, c16886, hA, hS⟩ := hLab
  refine ws fun K16918 hK16918 => ?_
  refine x_v hA (r_ltI rfl (hA.ev rfl) (hA.ev rfl)) rfl fun ac hA => ?_
  refine wn (hK16918 _ _ ?_)
  refine wp_seq_k fun K16919 hK16919 => ?_
  refine c_if hA rfl (fun hb16920 => ?_) fun hb16920 => ?_
  ·replace hF := ift hb16920 hF
   refine wp_skip ?_
   refine hK16919 _ _ ?_
   refine wp_seq_k fun K16921 hK16921 => ?_
   refine wp_block_k fun Kx16922 hKx16922 => ?_
   refine ws fun K16923 hK16923 => ?_
   obtain ⟨x16924, h16925, hF⟩ := bnd hF
   refine x_ia Tryd.underlying96 sz24 (hS.rd 2 rfl) h16925 hA (fun ac hA => ?_) rfl rfl rfl rfl rfl rfl
   obtain ⟨cs, hV, hc16926⟩ := el (hS.rd 2 rfl) h16925
   obtain ⟨A16927, n16928, c16929, rfl, h16930⟩ := hV
   refine x_ld Tryd.underlying24 (hc16926 0 _ rfl) hA (fun ac hA => ?_) rfl rfl rfl rfl rfl rfl
   refine x_m hA rfl fun ac hA => ?_
   refine wn (hK16923 _ _ ?_)
   refine wp_reg ?_
   refine x_m hA rfl fun ac hA => ?_
   refine x_m hA rfl fun ac hA => ?_
   refine x_b2s Tryd.underlying24 Tryd.underlying5 Tryd.underlying9 (hS.imm 3 h16930 rfl) hA (fun ac hA => ?_) rfl rfl rfl rfl rfl
   replace hS := hS.pk 1
   obtain ⟨y16931, h16932, hF⟩ := bnd hF
   refine x_call en29 hA (F_column_Text (L := own (kI .u8) 5 A0 n0 c0 a0 :: own (kM Z16742 wz16743 (kI .u8)) 24 (some ⟨g16750, 0, none⟩) 5 5 [y16695, y16700, y16705, y16710, y16715] :: zone Z16742 wz16743 :: L) l16883 (bts x16924) A16884 n16885 c16886 h16932 hS) (fun v ac w hR hA => ?_) rfl rfl rfl rfl rfl
   obtain ⟨B16933, m16934, d16935, rfl, hS⟩ := hR
   refine x_m hA rfl fun ac hA => ?_
   refine wpList_nil ?_
   refine hKx16922 _ _ ?_
   refine hK16921 _ _ ?_
   refine wp_reg ?_
   obtain ⟨x16936, h16937, hF⟩ := ltt_ hF
   refine x_v (v := .int .i64 x16936) hA (rv_i h16937 (r_add rfl (hA.ev rfl) (hA.ev rfl))) rfl fun ac hA => ?_
   refine x_m hA rfl fun ac hA => ?_
   refine wpList_nil ?_
   replace hS := hS.pk 3
   replace hS := hS.pk 3
   replace hS := hS.pk 2
   replace hS := hS.pk 3
   cases hF
   exact ⟨_, N16916_ _ rfl, B16933, m16934, d16935, hA.sub _ rfl, hS⟩
  replace hF := iff' hb16920 hF
  refine wp_exit ?_
  replace hS := hS.drop 2
  cases hF
  exact hx16916_2 l16883 (T16916_ _ rfl) A16884 n16885 c16886 ac w (hA.sub _ rfl) hS
 obtain ⟨t20600, hl20600, hF⟩ := bnd hF
 have hx20600_0 : ∀ (l20581 : (List Int)) (l20585 : (List Int)) (l20589 : (List Int)) (l20593 : (List (List UInt8))) (l20597 : (List Nat)), (l20581, l20585, l20589, l20593, l20597) = t20600 → ∀ (A20582 : Option Addr) (n20583 : Nat) (c20584 : Nat) (A20586 : Option Addr) (n20587 : Nat) (c20588 : Nat) (A20590 : Option Addr) (n20591 : Nat) (c20592 : Nat) (A20594 : Option Addr) (n20595 : Nat) (c20596 : Nat) (A20598 : Option Addr) (n20599 : Nat) (c20600 : Nat) (ac : Act) (w : World), FR 72 [] ac [(0, .slice A0 n0 c0), (5, .slice A20582 n20583 c20584), (6, .slice A20586 n20587 c20588), (7, .slice A20590 n20591 c20592), (8, .slice A20594 n20595 c20596), (9, .slice A20598 n20599 c20600)] → SH r (own (kI .u8) 5 A0 n0 c0 a0 :: own (kI .i64) 2 A20582 n20583 c20584 l20581 :: own (kI .i64) 2 A20586 n20587 c20588 l20585 :: own (kI .i64) 2 A20590 n20591 c20592 l20589 :: own kS 9 A20594 n20595 c20596 l20593 :: own kF 42 A20598 n20599 c20600 l20597 :: zone Z wz :: L) w → Kx10998 ac w := by
  intro l20581 l20585 l20589 l20593 l20597 ht A20582 n20583 c20584 A20586 n20587 c20588 A20590 n20591 c20592 A20594 n20595 c20596 A20598 n20599 c20600 ac w hA hS
  subst ht
  replace hF : event_Lay_x2_0 a0 l20581 l20585 l20589 l20593 l20597 = some y := hF
  unfold event_Lay_x2_0 at hF
  exact hb1 l20581 l20585 l20589 l20593 l20597 hF A20582 n20583 c20584 A20586 n20587 c20588 A20590 n20591 c20592 A20594 n20595 c20596 A20598 n20599 c20600 ac w (hA.sub _ rfl) hS
 replace hS := SH.nil_own (d := (kI .i64)) (e := 2) hS
 replace hS := SH.nil_own (d := (kI .i64)) (e := 2) hS
 replace hS := SH.nil_own (d := (kI .i64)) (e := 2) hS
 replace hS := SH.nil_own (d := kS) (e := 9) hS
 replace hS := SH.nil_own (d := kF) (e := 42) hS
 replace hS := hS.pk 6
 replace hS := hS.pk 1
 replace hS := hS.pk 2
 replace hS := hS.pk 3
 replace hS := hS.pk 4
 replace hS := hS.pk 5
 replace hS := hS.pk 6
 refine wp_loop_fn hl20600 (fun s ac w => ∃ (A18770 : Option Addr) (n18771 : Nat) (c18772 : Nat) (A18774 : Option Addr) (n18775 : Nat) (c18776 : Nat) (A18778 : Option Addr) (n18779 : Nat) (c18780 : Nat) (A18782 : Option Addr) (n18783 : Nat) (c18784 : Nat) (A18786 : Option Addr) (n18787 : Nat) (c18788 : Nat), FR 72 [] ac [(0, .slice A0 n0 c0), (5, .slice A18770 n18771 c18772), (6, .slice A18774 n18775 c18776), (7, .slice A18778 n18779 c18780), (8, .slice A18782 n18783 c18784), (9, .slice A18786 n18787 c18788), (15, .slice A1 n1 c1), (16, .int .i64 (a1.length : Int)), (17, .int .i64 s.2.2.2.2.2)] ∧ SH r (own (kI .u8) 5 A0 n0 c0 a0 :: own (kI .i64) 2 A18770 n18771 c18772 s.1 :: own (kI .i64) 2 A18774 n18775 c18776 s.2.1 :: own (kI .i64) 2 A18778 n18779 c18780 s.2.2.1 :: own kS 9 A18782 n18783 c18784 s.2.2.2.1 :: own kF 42 A18786 n18787 c18788 s.2.2.2.2.1 :: zone Z wz :: L) w) ⟨none, 0, 0, none, 0, 0, none, 0, 0, none, 0, 0, none, 0, 0, hA.sub _ rfl, hS⟩ ?_
 intro N20600 s20600 o20600 hF N20600_ T20600_ ac w hLab
 obtain ⟨l18769, l18773, l18777, l18781, l18785, x18789⟩ := s20600
 replace hF : event_Lay_l2 a1 l18769 l18773 l18777 l18781 l18785 x18789 = some o20600 := hF
 unfold event_Lay_l2 at hF
 try dsimp only at hLab
 obtain ⟨A18770, n18771, c18772, A18774, n18775, c18776, A18778, n18779, c18780, A18782, n18783, c18784, A18786, n18787, c18788, hA, hS⟩ := hLab
 refine ws fun K20602 hK20602 => ?_
 refine x_v hA (r_ltI rfl (hA.ev rfl) (hA.ev rfl)) rfl fun ac hA => ?_
 refine wn (hK20602 _ _ ?_)
 refine wp_seq_k fun K20603 hK20603 => ?_
 refine c_if hA rfl (fun hb20604 => ?_) fun hb20604 => ?_
 ·replace hF := ift hb20604 hF
  refine wp_skip ?_
  refine hK20603 _ _ ?_
  refine wp_seq_k fun K20605 hK20605 => ?_
  refine wp_block_k fun Kx21488 hKx21488 => ?_
  have hb3 : ∀ (l21919 : (List Int)) (l21923 : (List Int)) (l21927 : (List Int)) (l21931 : (List (List UInt8))) (l21935 : (List Nat)), event_Lay_b3 x18789 l21919 l21923 l21927 l21931 l21935 = some o20600 → ∀ (A21920 : Option Addr) (n21921 : Nat) (c21922 : Nat) (A21924 : Option Addr) (n21925 : Nat) (c21926 : Nat) (A21928 : Option Addr) (n21929 : Nat) (c21930 : Nat) (A21932 : Option Addr) (n21933 : Nat) (c21934 : Nat) (A21936 : Option Addr) (n21937 : Nat) (c21938 : Nat) (ac : Act) (w : World), FR 72 [] ac [(0, .slice A0 n0 c0), (5, .slice A21920 n21921 c21922), (6, .slice A21924 n21925 c21926), (7, .slice A21928 n21929 c21930), (8, .slice A21932 n21933 c21934), (9, .slice A21936 n21937 c21938), (15, .slice A1 n1 c1), (16, .int .i64 (a1.length : Int)), (17, .int .i64 x18789)] → SH r (own (kI .u8) 5 A0 n0 c0 a0 :: own (kI .i64) 2 A21920 n21921 c21922 l21919 :: own (kI .i64) 2 A21924 n21925 c21926 l21923 :: own (kI .i64) 2 A21928 n21929 c21930 l21927 :: own kS 9 A21932 n21933 c21934 l21931 :: own kF 42 A21936 n21937 c21938 l21935 :: zone Z wz :: L) w → Kx21488 ac w := by
   intro l21919 l21923 l21927 l21931 l21935 hF A21920 n21921 c21922 A21924 n21925 c21926 A21928 n21929 c21930 A21932 n21933 c21934 A21936 n21937 c21938 ac w hA hS
   unfold event_Lay_b3 at hF
   refine hKx21488 _ _ ?_
   refine hK20605 _ _ ?_
   refine wp_reg ?_
   obtain ⟨x21939, h21940, hF⟩ := ltt_ hF
   refine x_v (v := .int .i64 x21939) hA (rv_i h21940 (r_add rfl (hA.ev rfl) (hA.ev rfl))) rfl fun ac hA => ?_
   refine x_m hA rfl fun ac hA => ?_
   refine wpList_nil ?_
   cases hF
   exact ⟨_, N20600_ _ rfl, A21920, n21921, c21922, A21924, n21925, c21926, A21928, n21929, c21930, A21932, n21933, c21934, A21936, n21937, c21938, hA.sub _ rfl, hS⟩
  refine ws fun K21941 hK21941 => ?_
  obtain ⟨x21942, h21943, hF⟩ := bnd hF
  refine x_ia Tryd.underlying22 sz44 (hS.imm 6 ha1 rfl) h21943 hA (fun ac hA => ?_) rfl rfl rfl rfl rfl rfl
  obtain ⟨cs, hV, hc21944⟩ := el (hS.imm 6 ha1 rfl) h21943
  obtain rfl := hV
  refine x_lda (cs := [.int .u64 x21942.f0, .int .i64 x21942.f1, .int .i64 x21942.f2, str x21942.f3, .float .f64 x21942.f4]) Tryd.underlying44 sz44 (fun j u h => by rw [ea_add]; exact hc21944 _ _ h) hA (fun ac hA => ?_) rfl rfl rfl rfl rfl rfl
  refine x_alloc (cs := [.int .u64 0, .int .i64 0, .int .i64 0, str [], .float .f64 0]) zr44 hA hS (fun g21945 ac w hS hA => ?_) rfl rfl rfl rfl rfl
  refine x_stb 0 sz44 hA hS rfl (fun  ac w hS hA => ?_) rfl rfl rfl rfl rfl rfl rfl rfl
  refine wn (hK21941 _ _ ?_)
  refine wp_seq_k fun K21946 hK21946 => ?_
  have hj1 : ∀ (l22139 : (List Int)), event_Lay_j1 l18773 l18777 l18781 l18785 x18789 x21942 l22139 = some o20600 → ∀ (A22140 : Option Addr) (n22141 : Nat) (c22142 : Nat) (A22143 : Option Addr) (n22144 : Nat) (c22145 : Nat) (A22146 : Option Addr) (n22147 : Nat) (c22148 : Nat) (ac : Act) (w : World), FR 72 [] ac [(0, .slice A0 n0 c0), (5, .slice A22140 n22141 c22142), (6, .slice A22143 n22144 c22145), (7, .slice A22146 n22147 c22148), (8, .slice A18782 n18783 c18784), (9, .slice A18786 n18787 c18788), (11, .pointer (some ⟨g21945, 0, none⟩)), (15, .slice A1 n1 c1), (16, .int .i64 (a1.length : Int)), (17, .int .i64 x18789)] → SH r (blk g21945 44 [.int .u64 x21942.f0, .int .i64 x21942.f1, .int .i64 x21942.f2, str x21942.f3, .float .f64 x21942.f4] :: own (kI .u8) 5 A0 n0 c0 a0 :: own (kI .i64) 2 A22140 n22141 c22142 l22139 :: own (kI .i64) 2 A22143 n22144 c22145 (l18773 ++ [x21942.f1]) :: own (kI .i64) 2 A22146 n22147 c22148 (l18777 ++ [x21942.f2]) :: own kS 9 A18782 n18783 c18784 l18781 :: own kF 42 A18786 n18787 c18788 l18785 :: zone Z wz :: L) w → K21946 ac w := by
   intro l22139 hF A22140 n22141 c22142 A22143 n22144 c22145 A22146 n22147 c22148 ac w hA hS
   unfold event_Lay_j1 at hF
   refine hK21946 _ _ ?_
   refine wp_draw [0, 0, 2, 6, 15, 0, 0, 64, 192, 511, 1023, 2047] [3, 4, 8, 9] rfl hA hS (by kernel_rfl) (by kernel_rfl) (by kernel_rfl) (by kernel_rfl) fun w hS => ?_
   refine ⟨[(0, .slice A18782 n18783 c18784), (1, .pointer (some ⟨g21945, 3, none⟩)), (2, str x21942.f3), (5, .slice A18786 n18787 c18788), (6, .pointer (some ⟨g21945, 4, none⟩)), (7, .float .f64 x21942.f4)], ?_⟩
   refine dEff [0, 1, 2, 5, 6, 7] [3, 8] (by kernel_rfl) ⟨pu rfl rfl [(8, .slice A18782 n18783 c18784)] (fun ac hA => y_move hA rfl rfl) rfl rfl, pu rfl rfl [(11, .pointer (some ⟨g21945, 0, none⟩))] (fun ac hA => y_fab fa44_3 hA rfl rfl) rfl rfl, pu rfl rfl [(38, .pointer (some ⟨g21945, 3, none⟩))] (fun ac hA => y_ld Tryd.underlying9 (hS.cell 0 rfl 3 _ rfl) hA rfl rfl rfl) rfl rfl, pu rfl rfl [(9, .slice A18786 n18787 c18788)] (fun ac hA => y_move hA rfl rfl) rfl rfl, pu rfl rfl [(11, .pointer (some ⟨g21945, 0, none⟩))] (fun ac hA => y_fab fa44_4 hA rfl rfl) rfl rfl, pu rfl rfl [(43, .pointer (some ⟨g21945, 4, none⟩))] (fun ac hA => y_ld Tryd.underlying42 (hS.cell 0 rfl 4 _ rfl) hA rfl rfl rfl) rfl rfl, trivial⟩ (by kernel_rfl) (by kernel_rfl) ⟨?_, ?_, trivial⟩
   ·refine ef rfl [(39, str x21942.f3)] (fun ac hA K hK => ?_) rfl rfl
    refine z_bsl (d := kS) (e := 9) (ps := #[(0, str x21942.f3)]) (cells := [str x21942.f3]) (xs := [x21942.f3]) (fun w => by kernel_rfl) rfl ⟨[str x21942.f3], _, rfl, rfl, rfl⟩ hA hS (fun g22149 w hS => ?_) rfl rfl rfl
    refine hK _ [] _ rfl ?_
    refine dEff [0, 5, 6, 7] [4, 8] (by kernel_rfl) ⟨pu rfl rfl [(8, .slice A18782 n18783 c18784)] (fun ac hA => y_move hA rfl rfl) rfl rfl, pu rfl rfl [(9, .slice A18786 n18787 c18788)] (fun ac hA => y_move hA rfl rfl) rfl rfl, pu rfl rfl [(11, .pointer (some ⟨g21945, 0, none⟩))] (fun ac hA => y_fab fa44_4 hA rfl rfl) rfl rfl, pu rfl rfl [(43, .pointer (some ⟨g21945, 4, none⟩))] (fun ac hA => y_ld Tryd.underlying42 (hS.cell 1 rfl 4 _ rfl) hA rfl rfl rfl) rfl rfl, trivial⟩ (by kernel_rfl) (by kernel_rfl) ⟨?_, ?_, trivial⟩
    ·refine ef rfl [(37, .slice A18782 n18783 c18784), (40, .slice (some ⟨g22149, 0, none⟩) 1 1)] (fun ac hA K hK => ?_) rfl rfl
     obtain ⟨h22150, hF⟩ := chk_some hF
     have hr := hS.rd 0 rfl
     refine z_app 6 inf9 Tryd.underlying91 hA hS hr.1 hr.2.1 h22150 rfl (fun A22151 n22152 c22153 w hS => ?_) rfl rfl rfl rfl rfl rfl
     refine hK _ [] _ rfl ?_
     refine dEff [5, 6, 7] [8] (by kernel_rfl) ⟨pu rfl rfl [(9, .slice A18786 n18787 c18788)] (fun ac hA => y_move hA rfl rfl) rfl rfl, pu rfl rfl [(11, .pointer (some ⟨g21945, 0, none⟩))] (fun ac hA => y_fab fa44_4 hA rfl rfl) rfl rfl, pu rfl rfl [(43, .pointer (some ⟨g21945, 4, none⟩))] (fun ac hA => y_ld Tryd.underlying42 (hS.cell 2 rfl 4 _ rfl) hA rfl rfl rfl) rfl rfl, trivial⟩ (by kernel_rfl) (by kernel_rfl) ⟨ef rfl [(44, .float .f64 x21942.f4)] (fun ac hA K hK => ?_) rfl rfl, trivial⟩
     refine z_bsl (d := kF) (e := 42) (ps := #[(0, .float .f64 x21942.f4)]) (cells := [.float .f64 x21942.f4]) (xs := [x21942.f4]) (fun w => by kernel_rfl) rfl ⟨[.float .f64 x21942.f4], _, rfl, rfl, rfl⟩ hA hS (fun g22154 w hS => ?_) rfl rfl rfl
     refine hK _ [] _ rfl ?_
     refine dEff [5] [9] (by kernel_rfl) ⟨pu rfl rfl [(9, .slice A18786 n18787 c18788)] (fun ac hA => y_move hA rfl rfl) rfl rfl, trivial⟩ (by kernel_rfl) (by kernel_rfl) ⟨ef rfl [(42, .slice A18786 n18787 c18788), (45, .slice (some ⟨g22154, 0, none⟩) 1 1)] (fun ac hA K hK => ?_) rfl rfl, trivial⟩
     obtain ⟨h22155, hF⟩ := chk_some hF
     have hr := hS.rd 0 rfl
     refine z_app 8 inf42 Tryd.underlying92 hA hS hr.1 hr.2.1 h22155 rfl (fun A22156 n22157 c22158 w hS => ?_) rfl rfl rfl rfl rfl rfl
     refine hK _ [(10, .slice A22151 n22152 c22153), (11, .slice A22156 n22157 c22158)] _ rfl ?_
     refine dEnd [10, 11] (by kernel_rfl) ⟨pu rfl rfl [(41, .slice A22151 n22152 c22153)] (fun ac hA => y_assign hA rfl rfl) rfl rfl, pu rfl rfl [(46, .slice A22156 n22157 c22158)] (fun ac hA => y_assign hA rfl rfl) rfl rfl, trivial⟩ ⟨by kernel_rfl, by kernel_rfl⟩ [(0, .slice A0 n0 c0), (5, .slice A22140 n22141 c22142), (6, .slice A22143 n22144 c22145), (7, .slice A22146 n22147 c22148), (8, .slice A22151 n22152 c22153), (9, .slice A22156 n22157 c22158), (15, .slice A1 n1 c1), (16, .int .i64 (a1.length : Int)), (17, .int .i64 x18789)] rfl (fun ac hA => ?_)
     replace hS := hS.drop 1
     replace hS := hS.drop 2
     replace hS := hS.drop 2
     replace hS := hS.pk 6
     replace hS := hS.pk 1
     replace hS := hS.pk 2
     replace hS := hS.pk 6
     replace hS := hS.pk 6
     replace hS := hS.pk 6
     replace hS := hS.pk 6
     exact hb3 l22139 (l18773 ++ [x21942.f1]) (l18777 ++ [x21942.f2]) (l18781 ++ [x21942.f3]) (l18785 ++ [x21942.f4]) hF A22140 n22141 c22142 A22143 n22144 c22145 A22146 n22147 c22148 A22151 n22152 c22153 A22156 n22157 c22158 ac w (hA.sub _ rfl) hS
    ·refine ef rfl [(44, .float .f64 x21942.f4)] (fun ac hA K hK => ?_) rfl rfl
     refine z_bsl (d := kF) (e := 42) (ps := #[(0, .float .f64 x21942.f4)]) (cells := [.float .f64 x21942.f4]) (xs := [x21942.f4]) (fun w => by kernel_rfl) rfl ⟨[.float .f64 x21942.f4], _, rfl, rfl, rfl⟩ hA hS (fun g22159 w hS => ?_) rfl rfl rfl
     refine hK _ [] _ rfl ?_
     refine dEff [0, 5] [4] (by kernel_rfl) ⟨pu rfl rfl [(8, .slice A18782 n18783 c18784)] (fun ac hA => y_move hA rfl rfl) rfl rfl, pu rfl rfl [(9, .slice A18786 n18787 c18788)] (fun ac hA => y_move hA rfl rfl) rfl rfl, trivial⟩ (by kernel_rfl) (by kernel_rfl) ⟨ef rfl [(37, .slice A18782 n18783 c18784), (40, .slice (some ⟨g22149, 0, none⟩) 1 1)] (fun ac hA K hK => ?_) rfl rfl, trivial⟩
     obtain ⟨h22160, hF⟩ := chk_some hF
     have hr := hS.rd 1 rfl
     refine z_app 7 inf9 Tryd.underlying91 hA hS hr.1 hr.2.1 h22160 rfl (fun A22161 n22162 c22163 w hS => ?_) rfl rfl rfl rfl rfl rfl
     refine hK _ [] _ rfl ?_
     refine dEff [5] [9] (by kernel_rfl) ⟨pu rfl rfl [(9, .slice A18786 n18787 c18788)] (fun ac hA => y_move hA rfl rfl) rfl rfl, trivial⟩ (by kernel_rfl) (by kernel_rfl) ⟨ef rfl [(42, .slice A18786 n18787 c18788), (45, .slice (some ⟨g22159, 0, none⟩) 1 1)] (fun ac hA K hK => ?_) rfl rfl, trivial⟩
     obtain ⟨h22164, hF⟩ := chk_some hF
     have hr := hS.rd 1 rfl
     refine z_app 8 inf42 Tryd.underlying92 hA hS hr.1 hr.2.1 h22164 rfl (fun A22165 n22166 c22167 w hS => ?_) rfl rfl rfl rfl rfl rfl
     refine hK _ [(10, .slice A22161 n22162 c22163), (11, .slice A22165 n22166 c22167)] _ rfl ?_
     refine dEnd [10, 11] (by kernel_rfl) ⟨pu rfl rfl [(41, .slice A22161 n22162 c22163)] (fun ac hA => y_assign hA rfl rfl) rfl rfl, pu rfl rfl [(46, .slice A22165 n22166 c22167)] (fun ac hA => y_assign hA rfl rfl) rfl rfl, trivial⟩ ⟨by kernel_rfl, by kernel_rfl⟩ [(0, .slice A0 n0 c0), (5, .slice A22140 n22141 c22142), (6, .slice A22143 n22144 c22145), (7, .slice A22146 n22147 c22148), (8, .slice A22161 n22162 c22163), (9, .slice A22165 n22166 c22167), (15, .slice A1 n1 c1), (16, .int .i64 (a1.length : Int)), (17, .int .i64 x18789)] rfl (fun ac hA => ?_)
     replace hS := hS.drop 2
     replace hS := hS.drop 2
     replace hS := hS.drop 2
     replace hS := hS.pk 6
     replace hS := hS.pk 1
     replace hS := hS.pk 2
     replace hS := hS.pk 6
     replace hS := hS.pk 6
     replace hS := hS.pk 6
     replace hS := hS.pk 6
     exact hb3 l22139 (l18773 ++ [x21942.f1]) (l18777 ++ [x21942.f2]) (l18781 ++ [x21942.f3]) (l18785 ++ [x21942.f4]) hF A22140 n22141 c22142 A22143 n22144 c22145 A22146 n22147 c22148 A22161 n22162 c22163 A22165 n22166 c22167 ac w (hA.sub _ rfl) hS
   ·refine ef rfl [(44, .float .f64 x21942.f4)] (fun ac hA K hK => ?_) rfl rfl
    refine z_bsl (d := kF) (e := 42) (ps := #[(0, .float .f64 x21942.f4)]) (cells := [.float .f64 x21942.f4]) (xs := [x21942.f4]) (fun w => by kernel_rfl) rfl ⟨[.float .f64 x21942.f4], _, rfl, rfl, rfl⟩ hA hS (fun g22168 w hS => ?_) rfl rfl rfl
    refine hK _ [] _ rfl ?_
    refine dEff [0, 1, 2, 5] [3] (by kernel_rfl) ⟨pu rfl rfl [(8, .slice A18782 n18783 c18784)] (fun ac hA => y_move hA rfl rfl) rfl rfl, pu rfl rfl [(11, .pointer (some ⟨g21945, 0, none⟩))] (fun ac hA => y_fab fa44_3 hA rfl rfl) rfl rfl, pu rfl rfl [(38, .pointer (some ⟨g21945, 3, none⟩))] (fun ac hA => y_ld Tryd.underlying9 (hS.cell 1 rfl 3 _ rfl) hA rfl rfl rfl) rfl rfl, pu rfl rfl [(9, .slice A18786 n18787 c18788)] (fun ac hA => y_move hA rfl rfl) rfl rfl, trivial⟩ (by kernel_rfl) (by kernel_rfl) ⟨ef rfl [(39, str x21942.f3)] (fun ac hA K hK => ?_) rfl rfl, trivial⟩
    refine z_bsl (d := kS) (e := 9) (ps := #[(0, str x21942.f3)]) (cells := [str x21942.f3]) (xs := [x21942.f3]) (fun w => by kernel_rfl) rfl ⟨[str x21942.f3], _, rfl, rfl, rfl⟩ hA hS (fun g22169 w hS => ?_) rfl rfl rfl
    refine hK _ [] _ rfl ?_
    refine dEff [0, 5] [4] (by kernel_rfl) ⟨pu rfl rfl [(8, .slice A18782 n18783 c18784)] (fun ac hA => y_move hA rfl rfl) rfl rfl, pu rfl rfl [(9, .slice A18786 n18787 c18788)] (fun ac hA => y_move hA rfl rfl) rfl rfl, trivial⟩ (by kernel_rfl) (by kernel_rfl) ⟨ef rfl [(37, .slice A18782 n18783 c18784), (40, .slice (some ⟨g22169, 0, none⟩) 1 1)] (fun ac hA K hK => ?_) rfl rfl, trivial⟩
    obtain ⟨h22170, hF⟩ := chk_some hF
    have hr := hS.rd 0 rfl
    refine z_app 7 inf9 Tryd.underlying91 hA hS hr.1 hr.2.1 h22170 rfl (fun A22171 n22172 c22173 w hS => ?_) rfl rfl rfl rfl rfl rfl
    refine hK _ [] _ rfl ?_
    refine dEff [5] [9] (by kernel_rfl) ⟨pu rfl rfl [(9, .slice A18786 n18787 c18788)] (fun ac hA => y_move hA rfl rfl) rfl rfl, trivial⟩ (by kernel_rfl) (by kernel_rfl) ⟨ef rfl [(42, .slice A18786 n18787 c18788), (45, .slice (some ⟨g22168, 0, none⟩) 1 1)] (fun ac hA K hK => ?_) rfl rfl, trivial⟩
    obtain ⟨h22174, hF⟩ := chk_some hF
    have hr := hS.rd 2 rfl
    refine z_app 8 inf42 Tryd.underlying92 hA hS hr.1 hr.2.1 h22174 rfl (fun A22175 n22176 c22177 w hS => ?_) rfl rfl rfl rfl rfl rfl
    refine hK _ [(10, .slice A22171 n22172 c22173), (11, .slice A22175 n22176 c22177)] _ rfl ?_
    refine dEnd [10, 11] (by kernel_rfl) ⟨pu rfl rfl [(41, .slice A22171 n22172 c22173)] (fun ac hA => y_assign hA rfl rfl) rfl rfl, pu rfl rfl [(46, .slice A22175 n22176 c22177)] (fun ac hA => y_assign hA rfl rfl) rfl rfl, trivial⟩ ⟨by kernel_rfl, by kernel_rfl⟩ [(0, .slice A0 n0 c0), (5, .slice A22140 n22141 c22142), (6, .slice A22143 n22144 c22145), (7, .slice A22146 n22147 c22148), (8, .slice A22171 n22172 c22173), (9, .slice A22175 n22176 c22177), (15, .slice A1 n1 c1), (16, .int .i64 (a1.length : Int)), (17, .int .i64 x18789)] rfl (fun ac hA => ?_)
    replace hS := hS.drop 2
    replace hS := hS.drop 2
    replace hS := hS.drop 2
    replace hS := hS.pk 6
    replace hS := hS.pk 1
    replace hS := hS.pk 2
    replace hS := hS.pk 6
    replace hS := hS.pk 6
    replace hS := hS.pk 6
    replace hS := hS.pk 6
    exact hb3 l22139 (l18773 ++ [x21942.f1]) (l18777 ++ [x21942.f2]) (l18781 ++ [x21942.f3]) (l18785 ++ [x21942.f4]) hF A22140 n22141 c22142 A22143 n22144 c22145 A22146 n22147 c22148 A22171 n22172 c22173 A22175 n22176 c22177 ac w (hA.sub _ rfl) hS
  refine wp_draw [0, 0, 2, 6, 14, 31, 0, 0, 128, 384, 1023, 0, 0, 4096, 12288, 32767, 65535, 131071, 262143] [4, 5, 9, 10, 14, 15] rfl hA hS (by kernel_rfl) (by kernel_rfl) (by kernel_rfl) (by kernel_rfl) fun w hS => ?_
  obtain ⟨x22178, h22179, hF⟩ := ltt_ hF
  refine ⟨[(0, .slice A18770 n18771 c18772), (1, .pointer (some ⟨g21945, 0, none⟩)), (2, .int .u64 x21942.f0), (3, .int .i64 x22178), (6, .slice A18774 n18775 c18776), (7, .pointer (some ⟨g21945, 1, none⟩)), (8, .int .i64 x21942.f1), (11, .slice A18778 n18779 c18780), (12, .pointer (some ⟨g21945, 2, none⟩)), (13, .int .i64 x21942.f2)], ?_⟩
  refine dEff [0, 1, 2, 3, 6, 7, 8, 11, 12, 13] [4, 9, 14] (by kernel_rfl) ⟨pu rfl rfl [(5, .slice A18770 n18771 c18772)] (fun ac hA => y_move hA rfl rfl) rfl rfl, pu rfl rfl [(11, .pointer (some ⟨g21945, 0, none⟩))] (fun ac hA => y_fab fa44_0 hA rfl rfl) rfl rfl, pu rfl rfl [(22, .pointer (some ⟨g21945, 0, none⟩))] (fun ac hA => y_ld Tryd.underlying31 (hS.cell 0 rfl 0 _ rfl) hA rfl rfl rfl) rfl rfl, pu rfl rfl [(23, .int .u64 x21942.f0)] (fun ac hA => (rv_i h22179 (r_convI Tryd.underlying31 Tryd.underlying2 rfl (hA.ev rfl)) : RunV _ _ _ _ (.int .i64 x22178))) rfl rfl, pu rfl rfl [(6, .slice A18774 n18775 c18776)] (fun ac hA => y_move hA rfl rfl) rfl rfl, pu rfl rfl [(11, .pointer (some ⟨g21945, 0, none⟩))] (fun ac hA => y_fab fa44_1 hA rfl rfl) rfl rfl, pu rfl rfl [(28, .pointer (some ⟨g21945, 1, none⟩))] (fun ac hA => y_ld Tryd.underlying3 (hS.cell 0 rfl 1 _ rfl) hA rfl rfl rfl) rfl rfl, pu rfl rfl [(7, .slice A18778 n18779 c18780)] (fun ac hA => y_move hA rfl rfl) rfl rfl, pu rfl rfl [(11, .pointer (some ⟨g21945, 0, none⟩))] (fun ac hA => y_fab fa44_2 hA rfl rfl) rfl rfl, pu rfl rfl [(33, .pointer (some ⟨g21945, 2, none⟩))] (fun ac hA => y_ld Tryd.underlying2 (hS.cell 0 rfl 2 _ rfl) hA rfl rfl rfl) rfl rfl, trivial⟩ (by kernel_rfl) (by kernel_rfl) ⟨?_, ?_, ?_, trivial⟩
  ·refine ef rfl [(24, .int .i64 x22178)] (fun ac hA K hK => ?_) rfl rfl
   refine z_bsl (d := (kI .i64)) (e := 2) (ps := #[(0, .int .i64 x22178)]) (cells := [.int .i64 x22178]) (xs := [x22178]) (fun w => by kernel_rfl) rfl ⟨[.int .i64 x22178], _, rfl, rfl, rfl⟩ hA hS (fun g22180 w hS => ?_) rfl rfl rfl
   refine hK _ [] _ rfl ?_
   refine dEff [0, 6, 7, 8, 11, 12, 13] [5, 9, 14] (by kernel_rfl) ⟨pu rfl rfl [(5, .slice A18770 n18771 c18772)] (fun ac hA => y_move hA rfl rfl) rfl rfl, pu rfl rfl [(6, .slice A18774 n18775 c18776)] (fun ac hA => y_move hA rfl rfl) rfl rfl, pu rfl rfl [(11, .pointer (some ⟨g21945, 0, none⟩))] (fun ac hA => y_fab fa44_1 hA rfl rfl) rfl rfl, pu rfl rfl [(28, .pointer (some ⟨g21945, 1, none⟩))] (fun ac hA => y_ld Tryd.underlying3 (hS.cell 1 rfl 1 _ rfl) hA rfl rfl rfl) rfl rfl, pu rfl rfl [(7, .slice A18778 n18779 c18780)] (fun ac hA => y_move hA rfl rfl) rfl rfl, pu rfl rfl [(11, .pointer (some ⟨g21945, 0, none⟩))] (fun ac hA => y_fab fa44_2 hA rfl rfl) rfl rfl, pu rfl rfl [(33, .pointer (some ⟨g21945, 2, none⟩))] (fun ac hA => y_ld Tryd.underlying2 (hS.cell 1 rfl 2 _ rfl) hA rfl rfl rfl) rfl rfl, trivial⟩ (by kernel_rfl) (by kernel_rfl) ⟨?_, ?_, ?_, trivial⟩
   ·refine ef rfl [(21, .slice A18770 n18771 c18772), (25, .slice (some ⟨g22180, 0, none⟩) 1 1)] (fun ac hA K hK => ?_) rfl rfl
    obtain ⟨h22181, hF⟩ := chk_some hF
    have hr := hS.rd 0 rfl
    refine z_app 3 inf2 Tryd.underlying90 hA hS hr.1 hr.2.1 h22181 rfl (fun A22182 n22183 c22184 w hS => ?_) rfl rfl rfl rfl rfl rfl
    refine hK _ [] _ rfl ?_
    refine dEff [6, 7, 8, 11, 12, 13] [9, 14] (by kernel_rfl) ⟨pu rfl rfl [(6, .slice A18774 n18775 c18776)] (fun ac hA => y_move hA rfl rfl) rfl rfl, pu rfl rfl [(11, .pointer (some ⟨g21945, 0, none⟩))] (fun ac hA => y_fab fa44_1 hA rfl rfl) rfl rfl, pu rfl rfl [(28, .pointer (some ⟨g21945, 1, none⟩))] (fun ac hA => y_ld Tryd.underlying3 (hS.cell 2 rfl 1 _ rfl) hA rfl rfl rfl) rfl rfl, pu rfl rfl [(7, .slice A18778 n18779 c18780)] (fun ac hA => y_move hA rfl rfl) rfl rfl, pu rfl rfl [(11, .pointer (some ⟨g21945, 0, none⟩))] (fun ac hA => y_fab fa44_2 hA rfl rfl) rfl rfl, pu rfl rfl [(33, .pointer (some ⟨g21945, 2, none⟩))] (fun ac hA => y_ld Tryd.underlying2 (hS.cell 2 rfl 2 _ rfl) hA rfl rfl rfl) rfl rfl, trivial⟩ (by kernel_rfl) (by kernel_rfl) ⟨?_, ?_, trivial⟩
    ·refine ef rfl [(29, .int .i64 x21942.f1)] (fun ac hA K hK => ?_) rfl rfl
     refine z_bsl (d := (kI .i64)) (e := 2) (ps := #[(0, .int .i64 x21942.f1)]) (cells := [.int .i64 x21942.f1]) (xs := [x21942.f1]) (fun w => by kernel_rfl) rfl ⟨[.int .i64 x21942.f1], _, rfl, rfl, rfl⟩ hA hS (fun g22185 w hS => ?_) rfl rfl rfl
     refine hK _ [] _ rfl ?_
     refine dEff [6, 11, 12, 13] [10, 14] (by kernel_rfl) ⟨pu rfl rfl [(6, .slice A18774 n18775 c18776)] (fun ac hA => y_move hA rfl rfl) rfl rfl, pu rfl rfl [(7, .slice A18778 n18779 c18780)] (fun ac hA => y_move hA rfl rfl) rfl rfl, pu rfl rfl [(11, .pointer (some ⟨g21945, 0, none⟩))] (fun ac hA => y_fab fa44_2 hA rfl rfl) rfl rfl, pu rfl rfl [(33, .pointer (some ⟨g21945, 2, none⟩))] (fun ac hA => y_ld Tryd.underlying2 (hS.cell 3 rfl 2 _ rfl) hA rfl rfl rfl) rfl rfl, trivial⟩ (by kernel_rfl) (by kernel_rfl) ⟨?_, ?_, trivial⟩
     ·refine ef rfl [(27, .slice A18774 n18775 c18776), (30, .slice (some ⟨g22185, 0, none⟩) 1 1)] (fun ac hA K hK => ?_) rfl rfl
      obtain ⟨h22186, hF⟩ := chk_some hF
      have hr := hS.rd 0 rfl
      refine z_app 5 inf2 Tryd.underlying90 hA hS hr.1 hr.2.1 h22186 rfl (fun A22187 n22188 c22189 w hS => ?_) rfl rfl rfl rfl rfl rfl
      refine hK _ [] _ rfl ?_
      refine dEff [11, 12, 13] [14] (by kernel_rfl) ⟨pu rfl rfl [(7, .slice A18778 n18779 c18780)] (fun ac hA => y_move hA rfl rfl) rfl rfl, pu rfl rfl [(11, .pointer (some ⟨g21945, 0, none⟩))] (fun ac hA => y_fab fa44_2 hA rfl rfl) rfl rfl, pu rfl rfl [(33, .pointer (some ⟨g21945, 2, none⟩))] (fun ac hA => y_ld Tryd.underlying2 (hS.cell 4 rfl 2 _ rfl) hA rfl rfl rfl) rfl rfl, trivial⟩ (by kernel_rfl) (by kernel_rfl) ⟨ef rfl [(34, .int .i64 x21942.f2)] (fun ac hA K hK => ?_) rfl rfl, trivial⟩
      refine z_bsl (d := (kI .i64)) (e := 2) (ps := #[(0, .int .i64 x21942.f2)]) (cells := [.int .i64 x21942.f2]) (xs := [x21942.f2]) (fun w => by kernel_rfl) rfl ⟨[.int .i64 x21942.f2], _, rfl, rfl, rfl⟩ hA hS (fun g22190 w hS => ?_) rfl rfl rfl
      refine hK _ [] _ rfl ?_
      refine dEff [11] [15] (by kernel_rfl) ⟨pu rfl rfl [(7, .slice A18778 n18779 c18780)] (fun ac hA => y_move hA rfl rfl) rfl rfl, trivial⟩ (by kernel_rfl) (by kernel_rfl) ⟨ef rfl [(32, .slice A18778 n18779 c18780), (35, .slice (some ⟨g22190, 0, none⟩) 1 1)] (fun ac hA K hK => ?_) rfl rfl, trivial⟩
      obtain ⟨h22191, hF⟩ := chk_some hF
      have hr := hS.rd 0 rfl
      refine z_app 7 inf2 Tryd.underlying90 hA hS hr.1 hr.2.1 h22191 rfl (fun A22192 n22193 c22194 w hS => ?_) rfl rfl rfl rfl rfl rfl
      refine hK _ [(16, .slice A22182 n22183 c22184), (17, .slice A22187 n22188 c22189), (18, .slice A22192 n22193 c22194)] _ rfl ?_
      refine dEnd [16, 17, 18] (by kernel_rfl) ⟨pu rfl rfl [(26, .slice A22182 n22183 c22184)] (fun ac hA => y_assign hA rfl rfl) rfl rfl, pu rfl rfl [(31, .slice A22187 n22188 c22189)] (fun ac hA => y_assign hA rfl rfl) rfl rfl, pu rfl rfl [(36, .slice A22192 n22193 c22194)] (fun ac hA => y_assign hA rfl rfl) rfl rfl, trivial⟩ ⟨by kernel_rfl, by kernel_rfl⟩ [(0, .slice A0 n0 c0), (5, .slice A22182 n22183 c22184), (6, .slice A22187 n22188 c22189), (7, .slice A22192 n22193 c22194), (8, .slice A18782 n18783 c18784), (9, .slice A18786 n18787 c18788), (11, .pointer (some ⟨g21945, 0, none⟩)), (15, .slice A1 n1 c1), (16, .int .i64 (a1.length : Int)), (17, .int .i64 x18789)] rfl (fun ac hA => ?_)
      replace hS := hS.drop 1
      replace hS := hS.drop 2
      replace hS := hS.drop 3
      replace hS := hS.pk 7
      replace hS := hS.pk 7
      replace hS := hS.pk 7
      replace hS := hS.pk 3
      replace hS := hS.pk 4
      replace hS := hS.pk 5
      replace hS := hS.pk 7
      replace hS := hS.pk 7
      exact hj1 (l18769 ++ [x22178]) hF A22182 n22183 c22184 A22187 n22188 c22189 A22192 n22193 c22194 ac w (hA.sub _ rfl) hS
     ·refine ef rfl [(34, .int .i64 x21942.f2)] (fun ac hA K hK => ?_) rfl rfl
      refine z_bsl (d := (kI .i64)) (e := 2) (ps := #[(0, .int .i64 x21942.f2)]) (cells := [.int .i64 x21942.f2]) (xs := [x21942.f2]) (fun w => by kernel_rfl) rfl ⟨[.int .i64 x21942.f2], _, rfl, rfl, rfl⟩ hA hS (fun g22195 w hS => ?_) rfl rfl rfl
      refine hK _ [] _ rfl ?_
      refine dEff [6, 11] [10] (by kernel_rfl) ⟨pu rfl rfl [(6, .slice A18774 n18775 c18776)] (fun ac hA => y_move hA rfl rfl) rfl rfl, pu rfl rfl [(7, .slice A18778 n18779 c18780)] (fun ac hA => y_move hA rfl rfl) rfl rfl, trivial⟩ (by kernel_rfl) (by kernel_rfl) ⟨ef rfl [(27, .slice A18774 n18775 c18776), (30, .slice (some ⟨g22185, 0, none⟩) 1 1)] (fun ac hA K hK => ?_) rfl rfl, trivial⟩
      obtain ⟨h22196, hF⟩ := chk_some hF
      have hr := hS.rd 1 rfl
      refine z_app 6 inf2 Tryd.underlying90 hA hS hr.1 hr.2.1 h22196 rfl (fun A22197 n22198 c22199 w hS => ?_) rfl rfl rfl rfl rfl rfl
      refine hK _ [] _ rfl ?_
      refine dEff [11] [15] (by kernel_rfl) ⟨pu rfl rfl [(7, .slice A18778 n18779 c18780)] (fun ac hA => y_move hA rfl rfl) rfl rfl, trivial⟩ (by kernel_rfl) (by kernel_rfl) ⟨ef rfl [(32, .slice A18778 n18779 c18780), (35, .slice (some ⟨g22195, 0, none⟩) 1 1)] (fun ac hA K hK => ?_) rfl rfl, trivial⟩
      obtain ⟨h22200, hF⟩ := chk_some hF
      have hr := hS.rd 1 rfl
      refine z_app 7 inf2 Tryd.underlying90 hA hS hr.1 hr.2.1 h22200 rfl (fun A22201 n22202 c22203 w hS => ?_) rfl rfl rfl rfl rfl rfl
      refine hK _ [(16, .slice A22182 n22183 c22184), (17, .slice A22197 n22198 c22199), (18, .slice A22201 n22202 c22203)] _ rfl ?_
      refine dEnd [16, 17, 18] (by kernel_rfl) ⟨pu rfl rfl [(26, .slice A22182 n22183 c22184)] (fun ac hA => y_assign hA rfl rfl) rfl rfl, pu rfl rfl [(31, .slice A22197 n22198 c22199)] (fun ac hA => y_assign hA rfl rfl) rfl rfl, pu rfl rfl [(36, .slice A22201 n22202 c22203)] (fun ac hA => y_assign hA rfl rfl) rfl rfl, trivial⟩ ⟨by kernel_rfl, by kernel_rfl⟩ [(0, .slice A0 n0 c0), (5, .slice A22182 n22183 c22184), (6, .slice A22197 n22198 c22199), (7, .slice A22201 n22202 c22203), (8, .slice A18782 n18783 c18784), (9, .slice A18786 n18787 c18788), (11, .pointer (some ⟨g21945, 0, none⟩)), (15, .slice A1 n1 c1), (16, .int .i64 (a1.length : Int)), (17, .int .i64 x18789)] rfl (fun ac hA => ?_)
      replace hS := hS.drop 2
      replace hS := hS.drop 2
      replace hS := hS.drop 3
      replace hS := hS.pk 7
      replace hS := hS.pk 7
      replace hS := hS.pk 7
      replace hS := hS.pk 3
      replace hS := hS.pk 4
      replace hS := hS.pk 5
      replace hS := hS.pk 7
      replace hS := hS.pk 7
      exact hj1 (l18769 ++ [x22178]) hF A22182 n22183 c22184 A22197 n22198 c22199 A22201 n22202 c22203 ac w (hA.sub _ rfl) hS
    ·refine ef rfl [(34, .int .i64 x21942.f2)] (fun ac hA K hK => ?_) rfl rfl
     refine z_bsl (d := (kI .i64)) (e := 2) (ps := #[(0, .int .i64 x21942.f2)]) (cells := [.int .i64 x21942.f2]) (xs := [x21942.f2]) (fun w => by kernel_rfl) rfl ⟨[.int .i64 x21942.f2], _, rfl, rfl, rfl⟩ hA hS (fun g22204 w hS => ?_) rfl rfl rfl
     refine hK _ [] _ rfl ?_
     refine dEff [6, 7, 8, 11] [9] (by kernel_rfl) ⟨pu rfl rfl [(6, .slice A18774 n18775 c18776)] (fun ac hA => y_move hA rfl rfl) rfl rfl, pu rfl rfl [(11, .pointer (some ⟨g21945, 0, none⟩))] (fun ac hA => y_fab fa44_1 hA rfl rfl) rfl rfl, pu rfl rfl [(28, .pointer (some ⟨g21945, 1, none⟩))] (fun ac hA => y_ld Tryd.underlying3 (hS.cell 3 rfl 1 _ rfl) hA rfl rfl rfl) rfl rfl, pu rfl rfl [(7, .slice A18778 n18779 c18780)] (fun ac hA => y_move hA rfl rfl) rfl rfl, trivial⟩ (by kernel_rfl) (by kernel_rfl) ⟨ef rfl [(29, .int .i64 x21942.f1)] (fun ac hA K hK => ?_) rfl rfl, trivial⟩
     refine z_bsl (d := (kI .i64)) (e := 2) (ps := #[(0, .int .i64 x21942.f1)]) (cells := [.int .i64 x21942.f1]) (xs := [x21942.f1]) (fun w => by kernel_rfl) rfl ⟨[.int .i64 x21942.f1], _, rfl, rfl, rfl⟩ hA hS (fun g22205 w hS => ?_) rfl rfl rfl
     refine hK _ [] _ rfl ?_
     refine dEff [6, 11] [10] (by kernel_rfl) ⟨pu rfl rfl [(6, .slice A18774 n18775 c18776)] (fun ac hA => y_move hA rfl rfl) rfl rfl, pu rfl rfl [(7, .slice A18778 n18779 c18780)] (fun ac hA => y_move hA rfl rfl) rfl rfl, trivial⟩ (by kernel_rfl) (by kernel_rfl) ⟨ef rfl [(27, .slice A18774 n18775 c18776), (30, .slice (some ⟨g22205, 0, none⟩) 1 1)] (fun ac hA K hK => ?_) rfl rfl, trivial⟩
     obtain ⟨h22206, hF⟩ := chk_some hF
     have hr := hS.rd 0 rfl
     refine z_app 6 inf2 Tryd.underlying90 hA hS hr.1 hr.2.1 h22206 rfl (fun A22207 n22208 c22209 w hS => ?_) rfl rfl rfl rfl rfl rfl
     refine hK _ [] _ rfl ?_
     refine dEff [11] [15] (by kernel_rfl) ⟨pu rfl rfl [(7, .slice A18778 n18779 c18780)] (fun ac hA => y_move hA rfl rfl) rfl rfl, trivial⟩ (by kernel_rfl) (by kernel_rfl) ⟨ef rfl [(32, .slice A18778 n18779 c18780), (35, .slice (some ⟨g22204, 0, none⟩) 1 1)] (fun ac hA K hK => ?_) rfl rfl, trivial⟩
     obtain ⟨h22210, hF⟩ := chk_some hF
     have hr := hS.rd 2 rfl
     refine z_app 7 inf2 Tryd.underlying90 hA hS hr.1 hr.2.1 h22210 rfl (fun A22211 n22212 c22213 w hS => ?_) rfl rfl rfl rfl rfl rfl
     refine hK _ [(16, .slice A22182 n22183 c22184), (17, .slice A22207 n22208 c22209), (18, .slice A22211 n22212 c22213)] _ rfl ?_
     refine dEnd [16, 17, 18] (by kernel_rfl) ⟨pu rfl rfl [(26, .slice A22182 n22183 c22184)] (fun ac hA => y_assign hA rfl rfl) rfl rfl, pu rfl rfl [(31, .slice A22207 n22208 c22209)] (fun ac hA => y_assign hA rfl rfl) rfl rfl, pu rfl rfl [(36, .slice A22211 n22212 c22213)] (fun ac hA => y_assign hA rfl rfl) rfl rfl, trivial⟩ ⟨by kernel_rfl, by kernel_rfl⟩ [(0, .slice A0 n0 c0), (5, .slice A22182 n22183 c22184), (6, .slice A22207 n22208 c22209), (7, .slice A22211 n22212 c22213), (8, .slice A18782 n18783 c18784), (9, .slice A18786 n18787 c18788), (11, .pointer (some ⟨g21945, 0, none⟩)), (15, .slice A1 n1 c1), (16, .int .i64 (a1.length : Int)), (17, .int .i64 x18789)] rfl (fun ac hA => ?_)
     replace hS := hS.drop 2
     replace hS := hS.drop 2
     replace hS := hS.drop 3
     replace hS := hS.pk 7
     replace hS := hS.pk 7
     replace hS := hS.pk 7
     replace hS := hS.pk 3
     replace hS := hS.pk 4
     replace hS := hS.pk 5
     replace hS := hS.pk 7
     replace hS := hS.pk 7
     exact hj1 (l18769 ++ [x22178]) hF A22182 n22183 c22184 A22207 n22208 c22209 A22211 n22212 c22213 ac w (hA.sub _ rfl) hS
   ·refine ef rfl [(29, .int .i64 x21942.f1)] (fun ac hA K hK => ?_) rfl rfl
    refine z_bsl (d := (kI .i64)) (e := 2) (ps := #[(0, .int .i64 x21942.f1)]) (cells := [.int .i64 x21942.f1]) (xs := [x21942.f1]) (fun w => by kernel_rfl) rfl ⟨[.int .i64 x21942.f1], _, rfl, rfl, rfl⟩ hA hS (fun g22214 w hS => ?_) rfl rfl rfl
    refine hK _ [] _ rfl ?_
    refine dEff [0, 6, 11, 12, 13] [5, 14] (by kernel_rfl) ⟨pu rfl rfl [(5, .slice A18770 n18771 c18772)] (fun ac hA => y_move hA rfl rfl) rfl rfl, pu rfl rfl [(6, .slice A18774 n18775 c18776)] (fun ac hA => y_move hA rfl rfl) rfl rfl, pu rfl rfl [(7, .slice A18778 n18779 c18780)] (fun ac hA => y_move hA rfl rfl) rfl rfl, pu rfl rfl [(11, .pointer (some ⟨g21945, 0, none⟩))] (fun ac hA => y_fab fa44_2 hA rfl rfl) rfl rfl, pu rfl rfl [(33, .pointer (some ⟨g21945, 2, none⟩))] (fun ac hA => y_ld Tryd.underlying2 (hS.cell 2 rfl 2 _ rfl) hA rfl rfl rfl) rfl rfl, trivial⟩ (by kernel_rfl) (by kernel_rfl) ⟨?_, ?_, trivial⟩
    ·refine ef rfl [(21, .slice A18770 n18771 c18772), (25, .slice (some ⟨g22180, 0, none⟩) 1 1)] (fun ac hA K hK => ?_) rfl rfl
     obtain ⟨h22215, hF⟩ := chk_some hF
     have hr := hS.rd 1 rfl
     refine z_app 4 inf2 Tryd.underlying90 hA hS hr.1 hr.2.1 h22215 rfl (fun A22216 n22217 c22218 w hS => ?_) rfl rfl rfl rfl rfl rfl
     refine hK _ [] _ rfl ?_
     refine dEff [6, 11, 12, 13] [10, 14] (by kernel_rfl) ⟨pu rfl rfl [(6, .slice A18774 n18775 c18776)] (fun ac hA => y_move hA rfl rfl) rfl rfl, pu rfl rfl [(7, .slice A18778 n18779 c18780)] (fun ac hA => y_move hA rfl rfl) rfl rfl, pu rfl rfl [(11, .pointer (some ⟨g21945, 0, none⟩))] (fun ac hA => y_fab fa44_2 hA rfl rfl) rfl rfl, pu rfl rfl [(33, .pointer (some ⟨g21945, 2, none⟩))] (fun ac hA => y_ld Tryd.underlying2 (hS.cell 3 rfl 2 _ rfl) hA rfl rfl rfl) rfl rfl, trivial⟩ (by kernel_rfl) (by kernel_rfl) ⟨?_, ?_, trivial⟩
     ·refine ef rfl [(27, .slice A18774 n18775 c18776), (30, .slice (some ⟨g22214, 0, none⟩) 1 1)] (fun ac hA K hK => ?_) rfl rfl
      obtain ⟨h22219, hF⟩ := chk_some hF
      have hr := hS.rd 1 rfl
      refine z_app 5 inf2 Tryd.underlying90 hA hS hr.1 hr.2.1 h22219 rfl (fun A22220 n22221 c22222 w hS => ?_) rfl rfl rfl rfl rfl rfl
      refine hK _ [] _ rfl ?_
      refine dEff [11, 12, 13] [14] (by kernel_rfl) ⟨pu rfl rfl [(7, .slice A18778 n18779 c18780)] (fun ac hA => y_move hA rfl rfl) rfl rfl, pu rfl rfl [(11, .pointer (some ⟨g21945, 0, none⟩))] (fun ac hA => y_fab fa44_2 hA rfl rfl) rfl rfl, pu rfl rfl [(33, .pointer (some ⟨g21945, 2, none⟩))] (fun ac hA => y_ld Tryd.underlying2 (hS.cell 4 rfl 2 _ rfl) hA rfl rfl rfl) rfl rfl, trivial⟩ (by kernel_rfl) (by kernel_rfl) ⟨ef rfl [(34, .int .i64 x21942.f2)] (fun ac hA K hK => ?_) rfl rfl, trivial⟩
      refine z_bsl (d := (kI .i64)) (e := 2) (ps := #[(0, .int .i64 x21942.f2)]) (cells := [.int .i64 x21942.f2]) (xs := [x21942.f2]) (fun w => by kernel_rfl) rfl ⟨[.int .i64 x21942.f2], _, rfl, rfl, rfl⟩ hA hS (fun g22223 w hS => ?_) rfl rfl rfl
      refine hK _ [] _ rfl ?_
      refine dEff [11] [15] (by kernel_rfl) ⟨pu rfl rfl [(7, .slice A18778 n18779 c18780)] (fun ac hA => y_move hA rfl rfl) rfl rfl, trivial⟩ (by kernel_rfl) (by kernel_rfl) ⟨ef rfl [(32, .slice A18778 n18779 c18780), (35, .slice (some ⟨g22223, 0, none⟩) 1 1)] (fun ac hA K hK => ?_) rfl rfl, trivial⟩
      obtain ⟨h22224, hF⟩ := chk_some hF
      have hr := hS.rd 0 rfl
      refine z_app 7 inf2 Tryd.underlying90 hA hS hr.1 hr.2.1 h22224 rfl (fun A22225 n22226 c22227 w hS => ?_) rfl rfl rfl rfl rfl rfl
      refine hK _ [(16, .slice A22216 n22217 c22218), (17, .slice A22220 n22221 c22222), (18, .slice A22225 n22226 c22227)] _ rfl ?_
      refine dEnd [16, 17, 18] (by kernel_rfl) ⟨pu rfl rfl [(26, .slice A22216 n22217 c22218)] (fun ac hA => y_assign hA rfl rfl) rfl rfl, pu rfl rfl [(31, .slice A22220 n22221 c22222)] (fun ac hA => y_assign hA rfl rfl) rfl rfl, pu rfl rfl [(36, .slice A22225 n22226 c22227)] (fun ac hA => y_assign hA rfl rfl) rfl rfl, trivial⟩ ⟨by kernel_rfl, by kernel_rfl⟩ [(0, .slice A0 n0 c0), (5, .slice A22216 n22217 c22218), (6, .slice A22220 n22221 c22222), (7, .slice A22225 n22226 c22227), (8, .slice A18782 n18783 c18784), (9, .slice A18786 n18787 c18788), (11, .pointer (some ⟨g21945, 0, none⟩)), (15, .slice A1 n1 c1), (16, .int .i64 (a1.length : Int)), (17, .int .i64 x18789)] rfl (fun ac hA => ?_)
      replace hS := hS.drop 1
      replace hS := hS.drop 3
      replace hS := hS.drop 3
      replace hS := hS.pk 7
      replace hS := hS.pk 7
      replace hS := hS.pk 7
      replace hS := hS.pk 3
      replace hS := hS.pk 4
      replace hS := hS.pk 5
      replace hS := hS.pk 7
      replace hS := hS.pk 7
      exact hj1 (l18769 ++ [x22178]) hF A22216 n22217 c22218 A22220 n22221 c22222 A22225 n22226 c22227 ac w (hA.sub _ rfl) hS
     ·refine ef rfl [(34, .int .i64 x21942.f2)] (fun ac hA K hK => ?_) rfl rfl
      refine z_bsl (d := (kI .i64)) (e := 2) (ps := #[(0, .int .i64 x21942.f2)]) (cells := [.int .i64 x21942.f2]) (xs := [x21942.f2]) (fun w => by kernel_rfl) rfl ⟨[.int .i64 x21942.f2], _, rfl, rfl, rfl⟩ hA hS (fun g22228 w hS => ?_) rfl rfl rfl
      refine hK _ [] _ rfl ?_
      refine dEff [6, 11] [10] (by kernel_rfl) ⟨pu rfl rfl [(6, .slice A18774 n18775 c18776)] (fun ac hA => y_move hA rfl rfl) rfl rfl, pu rfl rfl [(7, .slice A18778 n18779 c18780)] (fun ac hA => y_move hA rfl rfl) rfl rfl, trivial⟩ (by kernel_rfl) (by kernel_rfl) ⟨ef rfl [(27, .slice A18774 n18775 c18776), (30, .slice (some ⟨g22214, 0, none⟩) 1 1)] (fun ac hA K hK => ?_) rfl rfl, trivial⟩
      obtain ⟨h22229, hF⟩ := chk_some hF
      have hr := hS.rd 2 rfl
      refine z_app 6 inf2 Tryd.underlying90 hA hS hr.1 hr.2.1 h22229 rfl (fun A22230 n22231 c22232 w hS => ?_) rfl rfl rfl rfl rfl rfl
      refine hK _ [] _ rfl ?_
      refine dEff [11] [15] (by kernel_rfl) ⟨pu rfl rfl [(7, .slice A18778 n18779 c18780)] (fun ac hA => y_move hA rfl rfl) rfl rfl, trivial⟩ (by kernel_rfl) (by kernel_rfl) ⟨ef rfl [(32, .slice A18778 n18779 c18780), (35, .slice (some ⟨g22228, 0, none⟩) 1 1)] (fun ac hA K hK => ?_) rfl rfl, trivial⟩
      obtain ⟨h22233, hF⟩ := chk_some hF
      have hr := hS.rd 1 rfl
      refine z_app 7 inf2 Tryd.underlying90 hA hS hr.1 hr.2.1 h22233 rfl (fun A22234 n22235 c22236 w hS => ?_) rfl rfl rfl rfl rfl rfl
      refine hK _ [(16, .slice A22216 n22217 c22218), (17, .slice A22230 n22231 c22232), (18, .slice A22234 n22235 c22236)] _ rfl ?_
      refine dEnd [16, 17, 18] (by kernel_rfl) ⟨pu rfl rfl [(26, .slice A22216 n22217 c22218)] (fun ac hA => y_assign hA rfl rfl) rfl rfl, pu rfl rfl [(31, .slice A22230 n22231 c22232)] (fun ac hA => y_assign hA rfl rfl) rfl rfl, pu rfl rfl [(36, .slice A22234 n22235 c22236)] (fun ac hA => y_assign hA rfl rfl) rfl rfl, trivial⟩ ⟨by kernel_rfl, by kernel_rfl⟩ [(0, .slice A0 n0 c0), (5, .slice A22216 n22217 c22218), (6, .slice A22230 n22231 c22232), (7, .slice A22234 n22235 c22236), (8, .slice A18782 n18783 c18784), (9, .slice A18786 n18787 c18788), (11, .pointer (some ⟨g21945, 0, none⟩)), (15, .slice A1 n1 c1), (16, .int .i64 (a1.length : Int)), (17, .int .i64 x18789)] rfl (fun ac hA => ?_)
      replace hS := hS.drop 2
      replace hS := hS.drop 3
      replace hS := hS.drop 3
      replace hS := hS.pk 7
      replace hS := hS.pk 7
      replace hS := hS.pk 7
      replace hS := hS.pk 3
      replace hS := hS.pk 4
      replace hS := hS.pk 5
      replace hS := hS.pk 7
      replace hS := hS.pk 7
      exact hj1 (l18769 ++ [x22178]) hF A22216 n22217 c22218 A22230 n22231 c22232 A22234 n22235 c22236 ac w (hA.sub _ rfl) hS
    ·refine ef rfl [(34, .int .i64 x21942.f2)] (fun ac hA K hK => ?_) rfl rfl
     refine z_bsl (d := (kI .i64)) (e := 2) (ps := #[(0, .int .i64 x21942.f2)]) (cells := [.int .i64 x21942.f2]) (xs := [x21942.f2]) (fun w => by kernel_rfl) rfl ⟨[.int .i64 x21942.f2], _, rfl, rfl, rfl⟩ hA hS (fun g22237 w hS => ?_) rfl rfl rfl
     refine hK _ [] _ rfl ?_
     refine dEff [0, 6, 11] [5] (by kernel_rfl) ⟨pu rfl rfl [(5, .slice A18770 n18771 c18772)] (fun ac hA => y_move hA rfl rfl) rfl rfl, pu rfl rfl [(6, .slice A18774 n18775 c18776)] (fun ac hA => y_move hA rfl rfl) rfl rfl, pu rfl rfl [(7, .slice A18778 n18779 c18780)] (fun ac hA => y_move hA rfl rfl) rfl rfl, trivial⟩ (by kernel_rfl) (by kernel_rfl) ⟨ef rfl [(21, .slice A18770 n18771 c18772), (25, .slice (some ⟨g22180, 0, none⟩) 1 1)] (fun ac hA K hK => ?_) rfl rfl, trivial⟩
     obtain ⟨h22238, hF⟩ := chk_some hF
     have hr := hS.rd 2 rfl
     refine z_app 5 inf2 Tryd.underlying90 hA hS hr.1 hr.2.1 h22238 rfl (fun A22239 n22240 c22241 w hS => ?_) rfl rfl rfl rfl rfl rfl
     refine hK _ [] _ rfl ?_
     refine dEff [6, 11] [10] (by kernel_rfl) ⟨pu rfl rfl [(6, .slice A18774 n18775 c18776)] (fun ac hA => y_move hA rfl rfl) rfl rfl, pu rfl rfl [(7, .slice A18778 n18779 c18780)] (fun ac hA => y_move hA rfl rfl) rfl rfl, trivial⟩ (by kernel_rfl) (by kernel_rfl) ⟨ef rfl [(27, .slice A18774 n18775 c18776), (30, .slice (some ⟨g22214, 0, none⟩) 1 1)] (fun ac hA K hK => ?_) rfl rfl, trivial⟩
     obtain ⟨h22242, hF⟩ := chk_some hF
     have hr := hS.rd 2 rfl
     refine z_app 6 inf2 Tryd.underlying90 hA hS hr.1 hr.2.1 h22242 rfl (fun A22243 n22244 c22245 w hS => ?_) rfl rfl rfl rfl rfl rfl
     refine hK _ [] _ rfl ?_
     refine dEff [11] [15] (by kernel_rfl) ⟨pu rfl rfl [(7, .slice A18778 n18779 c18780)] (fun ac hA => y_move hA rfl rfl) rfl rfl, trivial⟩ (by kernel_rfl) (by kernel_rfl) ⟨ef rfl [(32, .slice A18778 n18779 c18780), (35, .slice (some ⟨g22237, 0, none⟩) 1 1)] (fun ac hA K hK => ?_) rfl rfl, trivial⟩
     obtain ⟨h22246, hF⟩ := chk_some hF
     have hr := hS.rd 2 rfl
     refine z_app 7 inf2 Tryd.underlying90 hA hS hr.1 hr.2.1 h22246 rfl (fun A22247 n22248 c22249 w hS => ?_) rfl rfl rfl rfl rfl rfl
     refine hK _ [(16, .slice A22239 n22240 c22241), (17, .slice A22243 n22244 c22245), (18, .slice A22247 n22248 c22249)] _ rfl ?_
     refine dEnd [16, 17, 18] (by kernel_rfl) ⟨pu rfl rfl [(26, .slice A22239 n22240 c22241)] (fun ac hA => y_assign hA rfl rfl) rfl rfl, pu rfl rfl [(31, .slice A22243 n22244 c22245)] (fun ac hA => y_assign hA rfl rfl) rfl rfl, pu rfl rfl [(36, .slice A22247 n22248 c22249)] (fun ac hA => y_assign hA rfl rfl) rfl rfl, trivial⟩ ⟨by kernel_rfl, by kernel_rfl⟩ [(0, .slice A0 n0 c0), (5, .slice A22239 n22240 c22241), (6, .slice A22243 n22244 c22245), (7, .slice A22247 n22248 c22249), (8, .slice A18782 n18783 c18784), (9, .slice A18786 n18787 c18788), (11, .pointer (some ⟨g21945, 0, none⟩)), (15, .slice A1 n1 c1), (16, .int .i64 (a1.length : Int)), (17, .int .i64 x18789)] rfl (fun ac hA => ?_)
     replace hS := hS.drop 3
     replace hS := hS.drop 3
     replace hS := hS.drop 3
     replace hS := hS.pk 7
     replace hS := hS.pk 7
     replace hS := hS.pk 7
     replace hS := hS.pk 3
     replace hS := hS.pk 4
     replace hS := hS.pk 5
     replace hS := hS.pk 7
     replace hS := hS.pk 7
     exact hj1 (l18769 ++ [x22178]) hF A22239 n22240 c22241 A22243 n22244 c22245 A22247 n22248 c22249 ac w (hA.sub _ rfl) hS
   ·refine ef rfl [(34, .int .i64 x21942.f2)] (fun ac hA K hK => ?_) rfl rfl
    refine z_bsl (d := (kI .i64)) (e := 2) (ps := #[(0, .int .i64 x21942.f2)]) (cells := [.int .i64 x21942.f2]) (xs := [x21942.f2]) (fun w => by kernel_rfl) rfl ⟨[.int .i64 x21942.f2], _, rfl, rfl, rfl⟩ hA hS (fun g22250 w hS => ?_) rfl rfl rfl
    refine hK _ [] _ rfl ?_
    refine dEff [0, 6, 7, 8, 11] [5, 9] (by kernel_rfl) ⟨pu rfl rfl [(5, .slice A18770 n18771 c18772)] (fun ac hA => y_move hA rfl rfl) rfl rfl, pu rfl rfl [(6, .slice A18774 n18775 c18776)] (fun ac hA => y_move hA rfl rfl) rfl rfl, pu rfl rfl [(11, .pointer (some ⟨g21945, 0, none⟩))] (fun ac hA => y_fab fa44_1 hA rfl rfl) rfl rfl, pu rfl rfl [(28, .pointer (some ⟨g21945, 1, none⟩))] (fun ac hA => y_ld Tryd.underlying3 (hS.cell 2 rfl 1 _ rfl) hA rfl rfl rfl) rfl rfl, pu rfl rfl [(7, .slice A18778 n18779 c18780)] (fun ac hA => y_move hA rfl rfl) rfl rfl, trivial⟩ (by kernel_rfl) (by kernel_rfl) ⟨?_, ?_, trivial⟩
    ·refine ef rfl [(21, .slice A18770 n18771 c18772), (25, .slice (some ⟨g22180, 0, none⟩) 1 1)] (fun ac hA K hK => ?_) rfl rfl
     obtain ⟨h22251, hF⟩ := chk_some hF
     have hr := hS.rd 1 rfl
     refine z_app 4 inf2 Tryd.underlying90 hA hS hr.1 hr.2.1 h22251 rfl (fun A22252 n22253 c22254 w hS => ?_) rfl rfl rfl rfl rfl rfl
     refine hK _ [] _ rfl ?_
     refine dEff [6, 7, 8, 11] [9] (by kernel_rfl) ⟨pu rfl rfl [(6, .slice A18774 n18775 c18776)] (fun ac hA => y_move hA rfl rfl) rfl rfl, pu rfl rfl [(11, .pointer (some ⟨g21945, 0, none⟩))] (fun ac hA => y_fab fa44_1 hA rfl rfl) rfl rfl, pu rfl rfl [(28, .pointer (some ⟨g21945, 1, none⟩))] (fun ac hA => y_ld Tryd.underlying3 (hS.cell 3 rfl 1 _ rfl) hA rfl rfl rfl) rfl rfl, pu rfl rfl [(7, .slice A18778 n18779 c18780)] (fun ac hA => y_move hA rfl rfl) rfl rfl, trivial⟩ (by kernel_rfl) (by kernel_rfl) ⟨ef rfl [(29, .int .i64 x21942.f1)] (fun ac hA K hK => ?_) rfl rfl, trivial⟩
     refine z_bsl (d := (kI .i64)) (e := 2) (ps := #[(0, .int .i64 x21942.f1)]) (cells := [.int .i64 x21942.f1]) (xs := [x21942.f1]) (fun w => by kernel_rfl) rfl ⟨[.int .i64 x21942.f1], _, rfl, rfl, rfl⟩ hA hS (fun g22255 w hS => ?_) rfl rfl rfl
     refine hK _ [] _ rfl ?_
     refine dEff [6, 11] [10] (by kernel_rfl) ⟨pu rfl rfl [(6, .slice A18774 n18775 c18776)] (fun ac hA => y_move hA rfl rfl) rfl rfl, pu rfl rfl [(7, .slice A18778 n18779 c18780)] (fun ac hA => y_move hA rfl rfl) rfl rfl, trivial⟩ (by kernel_rfl) (by kernel_rfl) ⟨ef rfl [(27, .slice A18774 n18775 c18776), (30, .slice (some ⟨g22255, 0, none⟩) 1 1)] (fun ac hA K hK => ?_) rfl rfl, trivial⟩
     obtain ⟨h22256, hF⟩ := chk_some hF
     have hr := hS.rd 0 rfl
     refine z_app 6 inf2 Tryd.underlying90 hA hS hr.1 hr.2.1 h22256 rfl (fun A22257 n22258 c22259 w hS => ?_) rfl rfl rfl rfl rfl rfl
     refine hK _ [] _ rfl ?_
     refine dEff [11] [15] (by kernel_rfl) ⟨pu rfl rfl [(7, .slice A18778 n18779 c18780)] (fun ac hA => y_move hA rfl rfl) rfl rfl, trivial⟩ (by kernel_rfl) (by kernel_rfl) ⟨ef rfl [(32, .slice A18778 n18779 c18780), (35, .slice (some ⟨g22250, 0, none⟩) 1 1)] (fun ac hA K hK => ?_) rfl rfl, trivial⟩
     obtain ⟨h22260, hF⟩ := chk_some hF
     have hr := hS.rd 3 rfl
     refine z_app 7 inf2 Tryd.underlying90 hA hS hr.1 hr.2.1 h22260 rfl (fun A22261 n22262 c22263 w hS => ?_) rfl rfl rfl rfl rfl rfl
     refine hK _ [(16, .slice A22252 n22253 c22254), (17, .slice A22257 n22258 c22259), (18, .slice A22261 n22262 c22263)] _ rfl ?_
     refine dEnd [16, 17, 18] (by kernel_rfl) ⟨pu rfl rfl [(26, .slice A22252 n22253 c22254)] (fun ac hA => y_assign hA rfl rfl) rfl rfl, pu rfl rfl [(31, .slice A22257 n22258 c22259)] (fun ac hA => y_assign hA rfl rfl) rfl rfl, pu rfl rfl [(36, .slice A22261 n22262 c22263)] (fun ac hA => y_assign hA rfl rfl) rfl rfl, trivial⟩ ⟨by kernel_rfl, by kernel_rfl⟩ [(0, .slice A0 n0 c0), (5, .slice A22252 n22253 c22254), (6, .slice A22257 n22258 c22259), (7, .slice A22261 n22262 c22263), (8, .slice A18782 n18783 c18784), (9, .slice A18786 n18787 c18788), (11, .pointer (some ⟨g21945, 0, none⟩)), (15, .slice A1 n1 c1), (16, .int .i64 (a1.length : Int)), (17, .int .i64 x18789)] rfl (fun ac hA => ?_)
     replace hS := hS.drop 2
     replace hS := hS.drop 3
     replace hS := hS.drop 3
     replace hS := hS.pk 7
     replace hS := hS.pk 7
     replace hS := hS.pk 7
     replace hS := hS.pk 3
     replace hS := hS.pk 4
     replace hS := hS.pk 5
     replace hS := hS.pk 7
     replace hS := hS.pk 7
     exact hj1 (l18769 ++ [x22178]) hF A22252 n22253 c22254 A22257 n22258 c22259 A22261 n22262 c22263 ac w (hA.sub _ rfl) hS
    ·refine ef rfl [(29, .int .i64 x21942.f1)] (fun ac hA K hK => ?_) rfl rfl
     refine z_bsl (d := (kI .i64)) (e := 2) (ps := #[(0, .int .i64 x21942.f1)]) (cells := [.int .i64 x21942.f1]) (xs := [x21942.f1]) (fun w => by kernel_rfl) rfl ⟨[.int .i64 x21942.f1], _, rfl, rfl, rfl⟩ hA hS (fun g22264 w hS => ?_) rfl rfl rfl
     refine hK _ [] _ rfl ?_
     refine dEff [0, 6, 11] [5] (by kernel_rfl) ⟨pu rfl rfl [(5, .slice A18770 n18771 c18772)] (fun ac hA => y_move hA rfl rfl) rfl rfl, pu rfl rfl [(6, .slice A18774 n18775 c18776)] (fun ac hA => y_move hA rfl rfl) rfl rfl, pu rfl rfl [(7, .slice A18778 n18779 c18780)] (fun ac hA => y_move hA rfl rfl) rfl rfl, trivial⟩ (by kernel_rfl) (by kernel_rfl) ⟨ef rfl [(21, .slice A18770 n18771 c18772), (25, .slice (some ⟨g22180, 0, none⟩) 1 1)] (fun ac hA K hK => ?_) rfl rfl, trivial⟩
     obtain ⟨h22265, hF⟩ := chk_some hF
     have hr := hS.rd 2 rfl
     refine z_app 5 inf2 Tryd.underlying90 hA hS hr.1 hr.2.1 h22265 rfl (fun A22266 n22267 c22268 w hS => ?_) rfl rfl rfl rfl rfl rfl
     refine hK _ [] _ rfl ?_
     refine dEff [6, 11] [10] (by kernel_rfl) ⟨pu rfl rfl [(6, .slice A18774 n18775 c18776)] (fun ac hA => y_move hA rfl rfl) rfl rfl, pu rfl rfl [(7, .slice A18778 n18779 c18780)] (fun ac hA => y_move hA rfl rfl) rfl rfl, trivial⟩ (by kernel_rfl) (by kernel_rfl) ⟨ef rfl [(27, .slice A18774 n18775 c18776), (30, .slice (some ⟨g22264, 0, none⟩) 1 1)] (fun ac hA K hK => ?_) rfl rfl, trivial⟩
     obtain ⟨h22269, hF⟩ := chk_some hF
     have hr := hS.rd 1 rfl
     refine z_app 6 inf2 Tryd.underlying90 hA hS hr.1 hr.2.1 h22269 rfl (fun A22270 n22271 c22272 w hS => ?_) rfl rfl rfl rfl rfl rfl
     refine hK _ [] _ rfl ?_
     refine dEff [11] [15] (by kernel_rfl) ⟨pu rfl rfl [(7, .slice A18778 n18779 c18780)] (fun ac hA => y_move hA rfl rfl) rfl rfl, trivial⟩ (by kernel_rfl) (by kernel_rfl) ⟨ef rfl [(32, .slice A18778 n18779 c18780), (35, .slice (some ⟨g22250, 0, none⟩) 1 1)] (fun ac hA K hK => ?_) rfl rfl, trivial⟩
     obtain ⟨h22273, hF⟩ := chk_some hF
     have hr := hS.rd 3 rfl
     refine z_app 7 inf2 Tryd.underlying90 hA hS hr.1 hr.2.1 h22273 rfl (fun A22274 n22275 c22276 w hS => ?_) rfl rfl rfl rfl rfl rfl
     refine hK _ [(16, .slice A22266 n22267 c22268), (17, .slice A22270 n22271 c22272), (18, .slice A22274 n22275 c22276)] _ rfl ?_
     refine dEnd [16, 17, 18] (by kernel_rfl) ⟨pu rfl rfl [(26, .slice A22266 n22267 c22268)] (fun ac hA => y_assign hA rfl rfl) rfl rfl, pu rfl rfl [(31, .slice A22270 n22271 c22272)] (fun ac hA => y_assign hA rfl rfl) rfl rfl, pu rfl rfl [(36, .slice A22274 n22275 c22276)] (fun ac hA => y_assign hA rfl rfl) rfl rfl, trivial⟩ ⟨by kernel_rfl, by kernel_rfl⟩ [(0, .slice A0 n0 c0), (5, .slice A22266 n22267 c22268), (6, .slice A22270 n22271 c22272), (7, .slice A22274 n22275 c22276), (8, .slice A18782 n18783 c18784), (9, .slice A18786 n18787 c18788), (11, .pointer (some ⟨g21945, 0, none⟩)), (15, .slice A1 n1 c1), (16, .int .i64 (a1.length : Int)), (17, .int .i64 x18789)] rfl (fun ac hA => ?_)
     replace hS := hS.drop 3
     replace hS := hS.drop 3
     replace hS := hS.drop 3
     replace hS := hS.pk 7
     replace hS := hS.pk 7
     replace hS := hS.pk 7
     replace hS := hS.pk 3
     replace hS := hS.pk 4
     replace hS := hS.pk 5
     replace hS := hS.pk 7
     replace hS := hS.pk 7
     exact hj1 (l18769 ++ [x22178]) hF A22266 n22267 c22268 A22270 n22271 c22272 A22274 n22275 c22276 ac w (hA.sub _ rfl) hS
  ·refine ef rfl [(29, .int .i64 x21942.f1)] (fun ac hA K hK => ?_) rfl rfl
   refine z_bsl (d := (kI .i64)) (e := 2) (ps := #[(0, .int .i64 x21942.f1)]) (cells := [.int .i64 x21942.f1]) (xs := [x21942.f1]) (fun w => by kernel_rfl) rfl ⟨[.int .i64 x21942.f1], _, rfl, rfl, rfl⟩ hA hS (fun g22277 w hS => ?_) rfl rfl rfl
   refine hK _ [] _ rfl ?_
   refine dEff [0, 1, 2, 3, 6, 11, 12, 13] [4, 14] (by kernel_rfl) ⟨pu rfl rfl [(5, .slice A18770 n18771 c18772)] (fun ac hA => y_move hA rfl rfl) rfl rfl, pu rfl rfl [(11, .pointer (some ⟨g21945, 0, none⟩))] (fun ac hA => y_fab fa44_0 hA rfl rfl) rfl rfl, pu rfl rfl [(22, .pointer (some ⟨g21945, 0, none⟩))] (fun ac hA => y_ld Tryd.underlying31 (hS.cell 1 rfl 0 _ rfl) hA rfl rfl rfl) rfl rfl, pu rfl rfl [(23, .int .u64 x21942.f0)] (fun ac hA => (rv_i h22179 (r_convI Tryd.underlying31 Tryd.underlying2 rfl (hA.ev rfl)) : RunV _ _ _ _ (.int .i64 x22178))) rfl rfl, pu rfl rfl [(6, .slice A18774 n18775 c18776)] (fun ac hA => y_move hA rfl rfl) rfl rfl, pu rfl rfl [(7, .slice A18778 n18779 c18780)] (fun ac hA => y_move hA rfl rfl) rfl rfl, pu rfl rfl [(11, .pointer (some ⟨g21945, 0, none⟩))] (fun ac hA => y_fab fa44_2 hA rfl rfl) rfl rfl, pu rfl rfl [(33, .pointer (some ⟨g21945, 2, none⟩))] (fun ac hA => y_ld Tryd.underlying2 (hS.cell 1 rfl 2 _ rfl) hA rfl rfl rfl) rfl rfl, trivial⟩ (by kernel_rfl) (by kernel_rfl) ⟨?_, ?_, trivial⟩
   ·refine ef rfl [(24, .int .i64 x22178)] (fun ac hA K hK => ?_) rfl rfl
    refine z_bsl (d := (kI .i64)) (e := 2) (ps := #[(0, .int .i64 x22178)]) (cells := [.int .i64 x22178]) (xs := [x22178]) (fun w => by kernel_rfl) rfl ⟨[.int .i64 x22178], _, rfl, rfl, rfl⟩ hA hS (fun g22278 w hS => ?_) rfl rfl rfl
    refine hK _ [] _ rfl ?_
    refine dEff [0, 6, 11, 12, 13] [5, 14] (by kernel_rfl) ⟨pu rfl rfl [(5, .slice A18770 n18771 c18772)] (fun ac hA => y_move hA rfl rfl) rfl rfl, pu rfl rfl [(6, .slice A18774 n18775 c18776)] (fun ac hA => y_move hA rfl rfl) rfl rfl, pu rfl rfl [(7, .slice A18778 n18779 c18780)] (fun ac hA => y_move hA rfl rfl) rfl rfl, pu rfl rfl [(11, .pointer (some ⟨g21945, 0, none⟩))] (fun ac hA => y_fab fa44_2 hA rfl rfl) rfl rfl, pu rfl rfl [(33, .pointer (some ⟨g21945, 2, none⟩))] (fun ac hA => y_ld Tryd.underlying2 (hS.cell 2 rfl 2 _ rfl) hA rfl rfl rfl) rfl rfl, trivial⟩ (by kernel_rfl) (by kernel_rfl) ⟨?_, ?_, trivial⟩
    ·refine ef rfl [(21, .slice A18770 n18771 c18772), (25, .slice (some ⟨g22278, 0, none⟩) 1 1)] (fun ac hA K hK => ?_) rfl rfl
     obtain ⟨h22279, hF⟩ := chk_some hF
     have hr := hS.rd 0 rfl
     refine z_app 4 inf2 Tryd.underlying90 hA hS hr.1 hr.2.1 h22279 rfl (fun A22280 n22281 c22282 w hS => ?_) rfl rfl rfl rfl rfl rfl
     refine hK _ [] _ rfl ?_
     refine dEff [6, 11, 12, 13] [10, 14] (by kernel_rfl) ⟨pu rfl rfl [(6, .slice A18774 n18775 c18776)] (fun ac hA => y_move hA rfl rfl) rfl rfl, pu rfl rfl [(7, .slice A18778 n18779 c18780)] (fun ac hA => y_move hA rfl rfl) rfl rfl, pu rfl rfl [(11, .pointer (some ⟨g21945, 0, none⟩))] (fun ac hA => y_fab fa44_2 hA rfl rfl) rfl rfl, pu rfl rfl [(33, .pointer (some ⟨g21945, 2, none⟩))] (fun ac hA => y_ld Tryd.underlying2 (hS.cell 3 rfl 2 _ rfl) hA rfl rfl rfl) rfl rfl, trivial⟩ (by kernel_rfl) (by kernel_rfl) ⟨?_, ?_, trivial⟩
     ·refine ef rfl [(27, .slice A18774 n18775 c18776), (30, .slice (some ⟨g22277, 0, none⟩) 1 1)] (fun ac hA K hK => ?_) rfl rfl
      obtain ⟨h22283, hF⟩ := chk_some hF
      have hr := hS.rd 2 rfl
      refine z_app 5 inf2 Tryd.underlying90 hA hS hr.1 hr.2.1 h22283 rfl (fun A22284 n22285 c22286 w hS => ?_) rfl rfl rfl rfl rfl rfl
      refine hK _ [] _ rfl ?_
      refine dEff [11, 12, 13] [14] (by kernel_rfl) ⟨pu rfl rfl [(7, .slice A18778 n18779 c18780)] (fun ac hA => y_move hA rfl rfl) rfl rfl, pu rfl rfl [(11, .pointer (some ⟨g21945, 0, none⟩))] (fun ac hA => y_fab fa44_2 hA rfl rfl) rfl rfl, pu rfl rfl [(33, .pointer (some ⟨g21945, 2, none⟩))] (fun ac hA => y_ld Tryd.underlying2 (hS.cell 4 rfl 2 _ rfl) hA rfl rfl rfl) rfl rfl, trivial⟩ (by kernel_rfl) (by kernel_rfl) ⟨ef rfl [(34, .int .i64 x21942.f2)] (fun ac hA K hK => ?_) rfl rfl, trivial⟩
      refine z_bsl (d := (kI .i64)) (e := 2) (ps := #[(0, .int .i64 x21942.f2)]) (cells := [.int .i64 x21942.f2]) (xs := [x21942.f2]) (fun w => by kernel_rfl) rfl ⟨[.int .i64 x21942.f2], _, rfl, rfl, rfl⟩ hA hS (fun g22287 w hS => ?_) rfl rfl rfl
      refine hK _ [] _ rfl ?_
      refine dEff [11] [15] (by kernel_rfl) ⟨pu rfl rfl [(7, .slice A18778 n18779 c18780)] (fun ac hA => y_move hA rfl rfl) rfl rfl, trivial⟩ (by kernel_rfl) (by kernel_rfl) ⟨ef rfl [(32, .slice A18778 n18779 c18780), (35, .slice (some ⟨g22287, 0, none⟩) 1 1)] (fun ac hA K hK => ?_) rfl rfl, trivial⟩
      obtain ⟨h22288, hF⟩ := chk_some hF
      have hr := hS.rd 0 rfl
      refine z_app 7 inf2 Tryd.underlying90 hA hS hr.1 hr.2.1 h22288 rfl (fun A22289 n22290 c22291 w hS => ?_) rfl rfl rfl rfl rfl rfl
      refine hK _ [(16, .slice A22280 n22281 c22282), (17, .slice A22284 n22285 c22286), (18, .slice A22289 n22290 c22291)] _ rfl ?_
      refine dEnd [16, 17, 18] (by kernel_rfl) ⟨pu rfl rfl [(26, .slice A22280 n22281 c22282)] (fun ac hA => y_assign hA rfl rfl) rfl rfl, pu rfl rfl [(31, .slice A22284 n22285 c22286)] (fun ac hA => y_assign hA rfl rfl) rfl rfl, pu rfl rfl [(36, .slice A22289 n22290 c22291)] (fun ac hA => y_assign hA rfl rfl) rfl rfl, trivial⟩ ⟨by kernel_rfl, by kernel_rfl⟩ [(0, .slice A0 n0 c0), (5, .slice A22280 n22281 c22282), (6, .slice A22284 n22285 c22286), (7, .slice A22289 n22290 c22291), (8, .slice A18782 n18783 c18784), (9, .slice A18786 n18787 c18788), (11, .pointer (some ⟨g21945, 0, none⟩)), (15, .slice A1 n1 c1), (16, .int .i64 (a1.length : Int)), (17, .int .i64 x18789)] rfl (fun ac hA => ?_)
      replace hS := hS.drop 1
      replace hS := hS.drop 3
      replace hS := hS.drop 3
      replace hS := hS.pk 7
      replace hS := hS.pk 7
      replace hS := hS.pk 7
      replace hS := hS.pk 3
      replace hS := hS.pk 4
      replace hS := hS.pk 5
      replace hS := hS.pk 7
      replace hS := hS.pk 7
      exact hj1 (l18769 ++ [x22178]) hF A22280 n22281 c22282 A22284 n22285 c22286 A22289 n22290 c22291 ac w (hA.sub _ rfl) hS
     ·refine ef rfl [(34, .int .i64 x21942.f2)] (fun ac hA K hK => ?_) rfl rfl
      refine z_bsl (d := (kI .i64)) (e := 2) (ps := #[(0, .int .i64 x21942.f2)]) (cells := [.int .i64 x21942.f2]) (xs := [x21942.f2]) (fun w => by kernel_rfl) rfl ⟨[.int .i64 x21942.f2], _, rfl, rfl, rfl⟩ hA hS (fun g22292 w hS => ?_) rfl rfl rfl
      refine hK _ [] _ rfl ?_
      refine dEff [6, 11] [10] (by kernel_rfl) ⟨pu rfl rfl [(6, .slice A18774 n18775 c18776)] (fun ac hA => y_move hA rfl rfl) rfl rfl, pu rfl rfl [(7, .slice A18778 n18779 c18780)] (fun ac hA => y_move hA rfl rfl) rfl rfl, trivial⟩ (by kernel_rfl) (by kernel_rfl) ⟨ef rfl [(27, .slice A18774 n18775 c18776), (30, .slice (some ⟨g22277, 0, none⟩) 1 1)] (fun ac hA K hK => ?_) rfl rfl, trivial⟩
      obtain ⟨h22293, hF⟩ := chk_some hF
      have hr := hS.rd 3 rfl
      refine z_app 6 inf2 Tryd.underlying90 hA hS hr.1 hr.2.1 h22293 rfl (fun A22294 n22295 c22296 w hS => ?_) rfl rfl rfl rfl rfl rfl
      refine hK _ [] _ rfl ?_
      refine dEff [11] [15] (by kernel_rfl) ⟨pu rfl rfl [(7, .slice A18778 n18779 c18780)] (fun ac hA => y_move hA rfl rfl) rfl rfl, trivial⟩ (by kernel_rfl) (by kernel_rfl) ⟨ef rfl [(32, .slice A18778 n18779 c18780), (35, .slice (some ⟨g22292, 0, none⟩) 1 1)] (fun ac hA K hK => ?_) rfl rfl, trivial⟩
      obtain ⟨h22297, hF⟩ := chk_some hF
      have hr := hS.rd 1 rfl
      refine z_app 7 inf2 Tryd.underlying90 hA hS hr.1 hr.2.1 h22297 rfl (fun A22298 n22299 c22300 w hS => ?_) rfl rfl rfl rfl rfl rfl
      refine hK _ [(16, .slice A22280 n22281 c22282), (17, .slice A22294 n22295 c22296), (18, .slice A22298 n22299 c22300)] _ rfl ?_
      refine dEnd [16, 17, 18] (by kernel_rfl) ⟨pu rfl rfl [(26, .slice A22280 n22281 c22282)] (fun ac hA => y_assign hA rfl rfl) rfl rfl, pu rfl rfl [(31, .slice A22294 n22295 c22296)] (fun ac hA => y_assign hA rfl rfl) rfl rfl, pu rfl rfl [(36, .slice A22298 n22299 c22300)] (fun ac hA => y_assign hA rfl rfl) rfl rfl, trivial⟩ ⟨by kernel_rfl, by kernel_rfl⟩ [(0, .slice A0 n0 c0), (5, .slice A22280 n22281 c22282), (6, .slice A22294 n22295 c22296), (7, .slice A22298 n22299 c22300), (8, .slice A18782 n18783 c18784), (9, .slice A18786 n18787 c18788), (11, .pointer (some ⟨g21945, 0, none⟩)), (15, .slice A1 n1 c1), (16, .int .i64 (a1.length : Int)), (17, .int .i64 x18789)] rfl (fun ac hA => ?_)
      replace hS := hS.drop 2
      replace hS := hS.drop 3
      replace hS := hS.drop 3
      replace hS := hS.pk 7
      replace hS := hS.pk 7
      replace hS := hS.pk 7
      replace hS := hS.pk 3
      replace hS := hS.pk 4
      replace hS := hS.pk 5
      replace hS := hS.pk 7
      replace hS := hS.pk 7
      exact hj1 (l18769 ++ [x22178]) hF A22280 n22281 c22282 A22294 n22295 c22296 A22298 n22299 c22300 ac w (hA.sub _ rfl) hS
    ·refine ef rfl [(34, .int .i64 x21942.f2)] (fun ac hA K hK => ?_) rfl rfl
     refine z_bsl (d := (kI .i64)) (e := 2) (ps := #[(0, .int .i64 x21942.f2)]) (cells := [.int .i64 x21942.f2]) (xs := [x21942.f2]) (fun w => by kernel_rfl) rfl ⟨[.int .i64 x21942.f2], _, rfl, rfl, rfl⟩ hA hS (fun g22301 w hS => ?_) rfl rfl rfl
     refine hK _ [] _ rfl ?_
     refine dEff [0, 6, 11] [5] (by kernel_rfl) ⟨pu rfl rfl [(5, .slice A18770 n18771 c18772)] (fun ac hA => y_move hA rfl rfl) rfl rfl, pu rfl rfl [(6, .slice A18774 n18775 c18776)] (fun ac hA => y_move hA rfl rfl) rfl rfl, pu rfl rfl [(7, .slice A18778 n18779 c18780)] (fun ac hA => y_move hA rfl rfl) rfl rfl, trivial⟩ (by kernel_rfl) (by kernel_rfl) ⟨ef rfl [(21, .slice A18770 n18771 c18772), (25, .slice (some ⟨g22278, 0, none⟩) 1 1)] (fun ac hA K hK => ?_) rfl rfl, trivial⟩
     obtain ⟨h22302, hF⟩ := chk_some hF
     have hr := hS.rd 1 rfl
     refine z_app 5 inf2 Tryd.underlying90 hA hS hr.1 hr.2.1 h22302 rfl (fun A22303 n22304 c22305 w hS => ?_) rfl rfl rfl rfl rfl rfl
     refine hK _ [] _ rfl ?_
     refine dEff [6, 11] [10] (by kernel_rfl) ⟨pu rfl rfl [(6, .slice A18774 n18775 c18776)] (fun ac hA => y_move hA rfl rfl) rfl rfl, pu rfl rfl [(7, .slice A18778 n18779 c18780)] (fun ac hA => y_move hA rfl rfl) rfl rfl, trivial⟩ (by kernel_rfl) (by kernel_rfl) ⟨ef rfl [(27, .slice A18774 n18775 c18776), (30, .slice (some ⟨g22277, 0, none⟩) 1 1)] (fun ac hA K hK => ?_) rfl rfl, trivial⟩
     obtain ⟨h22306, hF⟩ := chk_some hF
     have hr := hS.rd 3 rfl
     refine z_app 6 inf2 Tryd.underlying90 hA hS hr.1 hr.2.1 h22306 rfl (fun A22307 n22308 c22309 w hS => ?_) rfl rfl rfl rfl rfl rfl
     refine hK _ [] _ rfl ?_
     refine dEff [11] [15] (by kernel_rfl) ⟨pu rfl rfl [(7, .slice A18778 n18779 c18780)] (fun ac hA => y_move hA rfl rfl) rfl rfl, trivial⟩ (by kernel_rfl) (by kernel_rfl) ⟨ef rfl [(32, .slice A18778 n18779 c18780), (35, .slice (some ⟨g22301, 0, none⟩) 1 1)] (fun ac hA K hK => ?_) rfl rfl, trivial⟩
     obtain ⟨h22310, hF⟩ := chk_some hF
     have hr := hS.rd 2 rfl
     refine z_app 7 inf2 Tryd.underlying90 hA hS hr.1 hr.2.1 h22310 rfl (fun A22311 n22312 c22313 w hS => ?_) rfl rfl rfl rfl rfl rfl
     refine hK _ [(16, .slice A22303 n22304 c22305), (17, .slice A22307 n22308 c22309), (18, .slice A22311 n22312 c22313)] _ rfl ?_
     refine dEnd [16, 17, 18] (by kernel_rfl) ⟨pu rfl rfl [(26, .slice A22303 n22304 c22305)] (fun ac hA => y_assign hA rfl rfl) rfl rfl, pu rfl rfl [(31, .slice A22307 n22308 c22309)] (fun ac hA => y_assign hA rfl rfl) rfl rfl, pu rfl rfl [(36, .slice A22311 n22312 c22313)] (fun ac hA => y_assign hA rfl rfl) rfl rfl, trivial⟩ ⟨by kernel_rfl, by kernel_rfl⟩ [(0, .slice A0 n0 c0), (5, .slice A22303 n22304 c22305), (6, .slice A22307 n22308 c22309), (7, .slice A22311 n22312 c22313), (8, .slice A18782 n18783 c18784), (9, .slice A18786 n18787 c18788), (11, .pointer (some ⟨g21945, 0, none⟩)), (15, .slice A1 n1 c1), (16, .int .i64 (a1.length : Int)), (17, .int .i64 x18789)] rfl (fun ac hA => ?_)
     replace hS := hS.drop 3
     replace hS := hS.drop 3
     replace hS := hS.drop 3
     replace hS := hS.pk 7
     replace hS := hS.pk 7
     replace hS := hS.pk 7
     replace hS := hS.pk 3
     replace hS := hS.pk 4
     replace hS := hS.pk 5
     replace hS := hS.pk 7
     replace hS := hS.pk 7
     exact hj1 (l18769 ++ [x22178]) hF A22303 n22304 c22305 A22307 n22308 c22309 A22311 n22312 c22313 ac w (hA.sub _ rfl) hS
   ·refine ef rfl [(34, .int .i64 x21942.f2)] (fun ac hA K hK => ?_) rfl rfl
    refine z_bsl (d := (kI .i64)) (e := 2) (ps := #[(0, .int .i64 x21942.f2)]) (cells := [.int .i64 x21942.f2]) (xs := [x21942.f2]) (fun w => by kernel_rfl) rfl ⟨[.int .i64 x21942.f2], _, rfl, rfl, rfl⟩ hA hS (fun g22314 w hS => ?_) rfl rfl rfl
    refine hK _ [] _ rfl ?_
    refine dEff [0, 1, 2, 3, 6, 11] [4] (by kernel_rfl) ⟨pu rfl rfl [(5, .slice A18770 n18771 c18772)] (fun ac hA => y_move hA rfl rfl) rfl rfl, pu rfl rfl [(11, .pointer (some ⟨g21945, 0, none⟩))] (fun ac hA => y_fab fa44_0 hA rfl rfl) rfl rfl, pu rfl rfl [(22, .pointer (some ⟨g21945, 0, none⟩))] (fun ac hA => y_ld Tryd.underlying31 (hS.cell 2 rfl 0 _ rfl) hA rfl rfl rfl) rfl rfl, pu rfl rfl [(23, .int .u64 x21942.f0)] (fun ac hA => (rv_i h22179 (r_convI Tryd.underlying31 Tryd.underlying2 rfl (hA.ev rfl)) : RunV _ _ _ _ (.int .i64 x22178))) rfl rfl, pu rfl rfl [(6, .slice A18774 n18775 c18776)] (fun ac hA => y_move hA rfl rfl) rfl rfl, pu rfl rfl [(7, .slice A18778 n18779 c18780)] (fun ac hA => y_move hA rfl rfl) rfl rfl, trivial⟩ (by kernel_rfl) (by kernel_rfl) ⟨ef rfl [(24, .int .i64 x22178)] (fun ac hA K hK => ?_) rfl rfl, trivial⟩
    refine z_bsl (d := (kI .i64)) (e := 2) (ps := #[(0, .int .i64 x22178)]) (cells := [.int .i64 x22178]) (xs := [x22178]) (fun w => by kernel_rfl) rfl ⟨[.int .i64 x22178], _, rfl, rfl, rfl⟩ hA hS (fun g22315 w hS => ?_) rfl rfl rfl
    refine hK _ [] _ rfl ?_
    refine dEff [0, 6, 11] [5] (by kernel_rfl) ⟨pu rfl rfl [(5, .slice A18770 n18771 c18772)] (fun ac hA => y_move hA rfl rfl) rfl rfl, pu rfl rfl [(6, .slice A18774 n18775 c18776)] (fun ac hA => y_move hA rfl rfl) rfl rfl, pu rfl rfl [(7, .slice A18778 n18779 c18780)] (fun ac hA => y_move hA rfl rfl) rfl rfl, trivial⟩ (by kernel_rfl) (by kernel_rfl) ⟨ef rfl [(21, .slice A18770 n18771 c18772), (25, .slice (some ⟨g22315, 0, none⟩) 1 1)] (fun ac hA K hK => ?_) rfl rfl, trivial⟩
    obtain ⟨h22316, hF⟩ := chk_some hF
    have hr := hS.rd 0 rfl
    refine z_app 5 inf2 Tryd.underlying90 hA hS hr.1 hr.2.1 h22316 rfl (fun A22317 n22318 c22319 w hS => ?_) rfl rfl rfl rfl rfl rfl
    refine hK _ [] _ rfl ?_
    refine dEff [6, 11] [10] (by kernel_rfl) ⟨pu rfl rfl [(6, .slice A18774 n18775 c18776)] (fun ac hA => y_move hA rfl rfl) rfl rfl, pu rfl rfl [(7, .slice A18778 n18779 c18780)] (fun ac hA => y_move hA rfl rfl) rfl rfl, trivial⟩ (by kernel_rfl) (by kernel_rfl) ⟨ef rfl [(27, .slice A18774 n18775 c18776), (30, .slice (some ⟨g22277, 0, none⟩) 1 1)] (fun ac hA K hK => ?_) rfl rfl, trivial⟩
    obtain ⟨h22320, hF⟩ := chk_some hF
    have hr := hS.rd 3 rfl
    refine z_app 6 inf2 Tryd.underlying90 hA hS hr.1 hr.2.1 h22320 rfl (fun A22321 n22322 c22323 w hS => ?_) rfl rfl rfl rfl rfl rfl
    refine hK _ [] _ rfl ?_
    refine dEff [11] [15] (by kernel_rfl) ⟨pu rfl rfl [(7, .slice A18778 n18779 c18780)] (fun ac hA => y_move hA rfl rfl) rfl rfl, trivial⟩ (by kernel_rfl) (by kernel_rfl) ⟨ef rfl [(32, .slice A18778 n18779 c18780), (35, .slice (some ⟨g22314, 0, none⟩) 1 1)] (fun ac hA K hK => ?_) rfl rfl, trivial⟩
    obtain ⟨h22324, hF⟩ := chk_some hF
    have hr := hS.rd 3 rfl
    refine z_app 7 inf2 Tryd.underlying90 hA hS hr.1 hr.2.1 h22324 rfl (fun A22325 n22326 c22327 w hS => ?_) rfl rfl rfl rfl rfl rfl
    refine hK _ [(16, .slice A22317 n22318 c22319), (17, .slice A22321 n22322 c22323), (18, .slice A22325 n22326 c22327)] _ rfl ?_
    refine dEnd [16, 17, 18] (by kernel_rfl) ⟨pu rfl rfl [(26, .slice A22317 n22318 c22319)] (fun ac hA => y_assign hA rfl rfl) rfl rfl, pu rfl rfl [(31, .slice A22321 n22322 c22323)] (fun ac hA => y_assign hA rfl rfl) rfl rfl, pu rfl rfl [(36, .slice A22325 n22326 c22327)] (fun ac hA => y_assign hA rfl rfl) rfl rfl, trivial⟩ ⟨by kernel_rfl, by kernel_rfl⟩ [(0, .slice A0 n0 c0), (5, .slice A22317 n22318 c22319), (6, .slice A22321 n22322 c22323), (7, .slice A22325 n22326 c22327), (8, .slice A18782 n18783 c18784), (9, .slice A18786 n18787 c18788), (11, .pointer (some ⟨g21945, 0, none⟩)), (15, .slice A1 n1 c1), (16, .int .i64 (a1.length : Int)), (17, .int .i64 x18789)] rfl (fun ac hA => ?_)
    replace hS := hS.drop 3
    replace hS := hS.drop 3
    replace hS := hS.drop 3
    replace hS := hS.pk 7
    replace hS := hS.pk 7
    replace hS := hS.pk 7
    replace hS := hS.pk 3
    replace hS := hS.pk 4
    replace hS := hS.pk 5
    replace hS := hS.pk 7
    replace hS := hS.pk 7
    exact hj1 (l18769 ++ [x22178]) hF A22317 n22318 c22319 A22321 n22322 c22323 A22325 n22326 c22327 ac w (hA.sub _ rfl) hS
  ·refine ef rfl [(34, .int .i64 x21942.f2)] (fun ac hA K hK => ?_) rfl rfl
   refine z_bsl (d := (kI .i64)) (e := 2) (ps := #[(0, .int .i64 x21942.f2)]) (cells := [.int .i64 x21942.f2]) (xs := [x21942.f2]) (fun w => by kernel_rfl) rfl ⟨[.int .i64 x21942.f2], _, rfl, rfl, rfl⟩ hA hS (fun g22328 w hS => ?_) rfl rfl rfl
   refine hK _ [] _ rfl ?_
   refine dEff [0, 1, 2, 3, 6, 7, 8, 11] [4, 9] (by kernel_rfl) ⟨pu rfl rfl [(5, .slice A18770 n18771 c18772)] (fun ac hA => y_move hA rfl rfl) rfl rfl, pu rfl rfl [(11, .pointer (some ⟨g21945, 0, none⟩))] (fun ac hA => y_fab fa44_0 hA rfl rfl) rfl rfl, pu rfl rfl [(22, .pointer (some ⟨g21945, 0, none⟩))] (fun ac hA => y_ld Tryd.underlying31 (hS.cell 1 rfl 0 _ rfl) hA rfl rfl rfl) rfl rfl, pu rfl rfl [(23, .int .u64 x21942.f0)] (fun ac hA => (rv_i h22179 (r_convI Tryd.underlying31 Tryd.underlying2 rfl (hA.ev rfl)) : RunV _ _ _ _ (.int .i64 x22178))) rfl rfl, pu rfl rfl [(6, .slice A18774 n18775 c18776)] (fun ac hA => y_move hA rfl rfl) rfl rfl, pu rfl rfl [(11, .pointer (some ⟨g21945, 0, none⟩))] (fun ac hA => y_fab fa44_1 hA rfl rfl) rfl rfl, pu rfl rfl [(28, .pointer (some ⟨g21945, 1, none⟩))] (fun ac hA => y_ld Tryd.underlying3 (hS.cell 1 rfl 1 _ rfl) hA rfl rfl rfl) rfl rfl, pu rfl rfl [(7, .slice A18778 n18779 c18780)] (fun ac hA => y_move hA rfl rfl) rfl rfl, trivial⟩ (by kernel_rfl) (by kernel_rfl) ⟨?_, ?_, trivial⟩
   ·refine ef rfl [(24, .int .i64 x22178)] (fun ac hA K hK => ?_) rfl rfl
    refine z_bsl (d := (kI .i64)) (e := 2) (ps := #[(0, .int .i64 x22178)]) (cells := [.int .i64 x22178]) (xs := [x22178]) (fun w => by kernel_rfl) rfl ⟨[.int .i64 x22178], _, rfl, rfl, rfl⟩ hA hS (fun g22329 w hS => ?_) rfl rfl rfl
    refine hK _ [] _ rfl ?_
    refine dEff [0, 6, 7, 8, 11] [5, 9] (by kernel_rfl) ⟨pu rfl rfl [(5, .slice A18770 n18771 c18772)] (fun ac hA => y_move hA rfl rfl) rfl rfl, pu rfl rfl [(6, .slice A18774 n18775 c18776)] (fun ac hA => y_move hA rfl rfl) rfl rfl, pu rfl rfl [(11, .pointer (some ⟨g21945, 0, none⟩))] (fun ac hA => y_fab fa44_1 hA rfl rfl) rfl rfl, pu rfl rfl [(28, .pointer (some ⟨g21945, 1, none⟩))] (fun ac hA => y_ld Tryd.underlying3 (hS.cell 2 rfl 1 _ rfl) hA rfl rfl rfl) rfl rfl, pu rfl rfl [(7, .slice A18778 n18779 c18780)] (fun ac hA => y_move hA rfl rfl) rfl rfl, trivial⟩ (by kernel_rfl) (by kernel_rfl) ⟨?_, ?_, trivial⟩
    ·refine ef rfl [(21, .slice A18770 n18771 c18772), (25, .slice (some ⟨g22329, 0, none⟩) 1 1)] (fun ac hA K hK => ?_) rfl rfl
     obtain ⟨h22330, hF⟩ := chk_some hF
     have hr := hS.rd 0 rfl
     refine z_app 4 inf2 Tryd.underlying90 hA hS hr.1 hr.2.1 h22330 rfl (fun A22331 n22332 c22333 w hS => ?_) rfl rfl rfl rfl rfl rfl
     refine hK _ [] _ rfl ?_
     refine dEff [6, 7, 8, 11] [9] (by kernel_rfl) ⟨pu rfl rfl [(6, .slice A18774 n18775 c18776)] (fun ac hA => y_move hA rfl rfl) rfl rfl, pu rfl rfl [(11, .pointer (some ⟨g21945, 0, none⟩))] (fun ac hA => y_fab fa44_1 hA rfl rfl) rfl rfl, pu rfl rfl [(28, .pointer (some ⟨g21945, 1, none⟩))] (fun ac hA => y_ld Tryd.underlying3 (hS.cell 3 rfl 1 _ rfl) hA rfl rfl rfl) rfl rfl, pu rfl rfl [(7, .slice A18778 n18779 c18780)] (fun ac hA => y_move hA rfl rfl) rfl rfl, trivial⟩ (by kernel_rfl) (by kernel_rfl) ⟨ef rfl [(29, .int .i64 x21942.f1)] (fun ac hA K hK => ?_) rfl rfl, trivial⟩
     refine z_bsl (d := (kI .i64)) (e := 2) (ps := #[(0, .int .i64 x21942.f1)]) (cells := [.int .i64 x21942.f1]) (xs := [x21942.f1]) (fun w => by kernel_rfl) rfl ⟨[.int .i64 x21942.f1], _, rfl, rfl, rfl⟩ hA hS (fun g22334 w hS => ?_) rfl rfl rfl
     refine hK _ [] _ rfl ?_
     refine dEff [6, 11] [10] (by kernel_rfl) ⟨pu rfl rfl [(6, .slice A18774 n18775 c18776)] (fun ac hA => y_move hA rfl rfl) rfl rfl, pu rfl rfl [(7, .slice A18778 n18779 c18780)] (fun ac hA => y_move hA rfl rfl) rfl rfl, trivial⟩ (by kernel_rfl) (by kernel_rfl) ⟨ef rfl [(27, .slice A18774 n18775 c18776), (30, .slice (some ⟨g22334, 0, none⟩) 1 1)] (fun ac hA K hK => ?_) rfl rfl, trivial⟩
     obtain ⟨h22335, hF⟩ := chk_some hF
     have hr := hS.rd 0 rfl
     refine z_app 6 inf2 Tryd.underlying90 hA hS hr.1 hr.2.1 h22335 rfl (fun A22336 n22337 c22338 w hS => ?_) rfl rfl rfl rfl rfl rfl
     refine hK _ [] _ rfl ?_
     refine dEff [11] [15] (by kernel_rfl) ⟨pu rfl rfl [(7, .slice A18778 n18779 c18780)] (fun ac hA => y_move hA rfl rfl) rfl rfl, trivial⟩ (by kernel_rfl) (by kernel_rfl) ⟨ef rfl [(32, .slice A18778 n18779 c18780), (35, .slice (some ⟨g22328, 0, none⟩) 1 1)] (fun ac hA K hK => ?_) rfl rfl, trivial⟩
     obtain ⟨h22339, hF⟩ := chk_some hF
     have hr := hS.rd 4 rfl
     refine z_app 7 inf2 Tryd.underlying90 hA hS hr.1 hr.2.1 h22339 rfl (fun A22340 n22341 c22342 w hS => ?_) rfl rfl rfl rfl rfl rfl
     refine hK _ [(16, .slice A22331 n22332 c22333), (17, .slice A22336 n22337 c22338), (18, .slice A22340 n22341 c22342)] _ rfl ?_
     refine dEnd [16, 17, 18] (by kernel_rfl) ⟨pu rfl rfl [(26, .slice A22331 n22332 c22333)] (fun ac hA => y_assign hA rfl rfl) rfl rfl, pu rfl rfl [(31, .slice A22336 n22337 c22338)] (fun ac hA => y_assign hA rfl rfl) rfl rfl, pu rfl rfl [(36, .slice A22340 n22341 c22342)] (fun ac hA => y_assign hA rfl rfl) rfl rfl, trivial⟩ ⟨by kernel_rfl, by kernel_rfl⟩ [(0, .slice A0 n0 c0), (5, .slice A22331 n22332 c22333), (6, .slice A22336 n22337 c22338), (7, .slice A22340 n22341 c22342), (8, .slice A18782 n18783 c18784), (9, .slice A18786 n18787 c18788), (11, .pointer (some ⟨g21945, 0, none⟩)), (15, .slice A1 n1 c1), (16, .int .i64 (a1.length : Int)), (17, .int .i64 x18789)] rfl (fun ac hA => ?_)
     replace hS := hS.drop 2
     replace hS := hS.drop 3
     replace hS := hS.drop 3
     replace hS := hS.pk 7
     replace hS := hS.pk 7
     replace hS := hS.pk 7
     replace hS := hS.pk 3
     replace hS := hS.pk 4
     replace hS := hS.pk 5
     replace hS := hS.pk 7
     replace hS := hS.pk 7
     exact hj1 (l18769 ++ [x22178]) hF A22331 n22332 c22333 A22336 n22337 c22338 A22340 n22341 c22342 ac w (hA.sub _ rfl) hS
    ·refine ef rfl [(29, .int .i64 x21942.f1)] (fun ac hA K hK => ?_) rfl rfl
     refine z_bsl (d := (kI .i64)) (e := 2) (ps := #[(0, .int .i64 x21942.f1)]) (cells := [.int .i64 x21942.f1]) (xs := [x21942.f1]) (fun w => by kernel_rfl) rfl ⟨[.int .i64 x21942.f1], _, rfl, rfl, rfl⟩ hA hS (fun g22343 w hS => ?_) rfl rfl rfl
     refine hK _ [] _ rfl ?_
     refine dEff [0, 6, 11] [5] (by kernel_rfl) ⟨pu rfl rfl [(5, .slice A18770 n18771 c18772)] (fun ac hA => y_move hA rfl rfl) rfl rfl, pu rfl rfl [(6, .slice A18774 n18775 c18776)] (fun ac hA => y_move hA rfl rfl) rfl rfl, pu rfl rfl [(7, .slice A18778 n18779 c18780)] (fun ac hA => y_move hA rfl rfl) rfl rfl, trivial⟩ (by kernel_rfl) (by kernel_rfl) ⟨ef rfl [(21, .slice A18770 n18771 c18772), (25, .slice (some ⟨g22329, 0, none⟩) 1 1)] (fun ac hA K hK => ?_) rfl rfl, trivial⟩
     obtain ⟨h22344, hF⟩ := chk_some hF
     have hr := hS.rd 1 rfl
     refine z_app 5 inf2 Tryd.underlying90 hA hS hr.1 hr.2.1 h22344 rfl (fun A22345 n22346 c22347 w hS => ?_) rfl rfl rfl rfl rfl rfl
     refine hK _ [] _ rfl ?_
     refine dEff [6, 11] [10] (by kernel_rfl) ⟨pu rfl rfl [(6, .slice A18774 n18775 c18776)] (fun ac hA => y_move hA rfl rfl) rfl rfl, pu rfl rfl [(7, .slice A18778 n18779 c18780)] (fun ac hA => y_move hA rfl rfl) rfl rfl, trivial⟩ (by kernel_rfl) (by kernel_rfl) ⟨ef rfl [(27, .slice A18774 n18775 c18776), (30, .slice (some ⟨g22343, 0, none⟩) 1 1)] (fun ac hA K hK => ?_) rfl rfl, trivial⟩
     obtain ⟨h22348, hF⟩ := chk_some hF
     have hr := hS.rd 1 rfl
     refine z_app 6 inf2 Tryd.underlying90 hA hS hr.1 hr.2.1 h22348 rfl (fun A22349 n22350 c22351 w hS => ?_) rfl rfl rfl rfl rfl rfl
     refine hK _ [] _ rfl ?_
     refine dEff [11] [15] (by kernel_rfl) ⟨pu rfl rfl [(7, .slice A18778 n18779 c18780)] (fun ac hA => y_move hA rfl rfl) rfl rfl, trivial⟩ (by kernel_rfl) (by kernel_rfl) ⟨ef rfl [(32, .slice A18778 n18779 c18780), (35, .slice (some ⟨g22328, 0, none⟩) 1 1)] (fun ac hA K hK => ?_) rfl rfl, trivial⟩
     obtain ⟨h22352, hF⟩ := chk_some hF
     have hr := hS.rd 4 rfl
     refine z_app 7 inf2 Tryd.underlying90 hA hS hr.1 hr.2.1 h22352 rfl (fun A22353 n22354 c22355 w hS => ?_) rfl rfl rfl rfl rfl rfl
     refine hK _ [(16, .slice A22345 n22346 c22347), (17, .slice A22349 n22350 c22351), (18, .slice A22353 n22354 c22355)] _ rfl ?_
     refine dEnd [16, 17, 18] (by kernel_rfl) ⟨pu rfl rfl [(26, .slice A22345 n22346 c22347)] (fun ac hA => y_assign hA rfl rfl) rfl rfl, pu rfl rfl [(31, .slice A22349 n22350 c22351)] (fun ac hA => y_assign hA rfl rfl) rfl rfl, pu rfl rfl [(36, .slice A22353 n22354 c22355)] (fun ac hA => y_assign hA rfl rfl) rfl rfl, trivial⟩ ⟨by kernel_rfl, by kernel_rfl⟩ [(0, .slice A0 n0 c0), (5, .slice A22345 n22346 c22347), (6, .slice A22349 n22350 c22351), (7, .slice A22353 n22354 c22355), (8, .slice A18782 n18783 c18784), (9, .slice A18786 n18787 c18788), (11, .pointer (some ⟨g21945, 0, none⟩)), (15, .slice A1 n1 c1), (16, .int .i64 (a1.length : Int)), (17, .int .i64 x18789)] rfl (fun ac hA => ?_)
     replace hS := hS.drop 3
     replace hS := hS.drop 3
     replace hS := hS.drop 3
     replace hS := hS.pk 7
     replace hS := hS.pk 7
     replace hS := hS.pk 7
     replace hS := hS.pk 3
     replace hS := hS.pk 4
     replace hS := hS.pk 5
     replace hS := hS.pk 7
     replace hS := hS.pk 7
     exact hj1 (l18769 ++ [x22178]) hF A22345 n22346 c22347 A22349 n22350 c22351 A22353 n22354 c22355 ac w (hA.sub _ rfl) hS
   ·refine ef rfl [(29, .int .i64 x21942.f1)] (fun ac hA K hK => ?_) rfl rfl
    refine z_bsl (d := (kI .i64)) (e := 2) (ps := #[(0, .int .i64 x21942.f1)]) (cells := [.int .i64 x21942.f1]) (xs := [x21942.f1]) (fun w => by kernel_rfl) rfl ⟨[.int .i64 x21942.f1], _, rfl, rfl, rfl⟩ hA hS (fun g22356 w hS => ?_) rfl rfl rfl
    refine hK _ [] _ rfl ?_
    refine dEff [0, 1, 2, 3, 6, 11] [4] (by kernel_rfl) ⟨pu rfl rfl [(5, .slice A18770 n18771 c18772)] (fun ac hA => y_move hA rfl rfl) rfl rfl, pu rfl rfl [(11, .pointer (some ⟨g21945, 0, none⟩))] (fun ac hA => y_fab fa44_0 hA rfl rfl) rfl rfl, pu rfl rfl [(22, .pointer (some ⟨g21945, 0, none⟩))] (fun ac hA => y_ld Tryd.underlying31 (hS.cell 2 rfl 0 _ rfl) hA rfl rfl rfl) rfl rfl, pu rfl rfl [(23, .int .u64 x21942.f0)] (fun ac hA => (rv_i h22179 (r_convI Tryd.underlying31 Tryd.underlying2 rfl (hA.ev rfl)) : RunV _ _ _ _ (.int .i64 x22178))) rfl rfl, pu rfl rfl [(6, .slice A18774 n18775 c18776)] (fun ac hA => y_move hA rfl rfl) rfl rfl, pu rfl rfl [(7, .slice A18778 n18779 c18780)] (fun ac hA => y_move hA rfl rfl) rfl rfl, trivial⟩ (by kernel_rfl) (by kernel_rfl) ⟨ef rfl [(24, .int .i64 x22178)] (fun ac hA K hK => ?_) rfl rfl, trivial⟩
    refine z_bsl (d := (kI .i64)) (e := 2) (ps := #[(0, .int .i64 x22178)]) (cells := [.int .i64 x22178]) (xs := [x22178]) (fun w => by kernel_rfl) rfl ⟨[.int .i64 x22178], _, rfl, rfl, rfl⟩ hA hS (fun g22357 w hS => ?_) rfl rfl rfl
    refine hK _ [] _ rfl ?_
    refine dEff [0, 6, 11] [5] (by kernel_rfl) ⟨pu rfl rfl [(5, .slice A18770 n18771 c18772)] (fun ac hA => y_move hA rfl rfl) rfl rfl, pu rfl rfl [(6, .slice A18774 n18775 c18776)] (fun ac hA => y_move hA rfl rfl) rfl rfl, pu rfl rfl [(7, .slice A18778 n18779 c18780)] (fun ac hA => y_move hA rfl rfl) rfl rfl, trivial⟩ (by kernel_rfl) (by kernel_rfl) ⟨ef rfl [(21, .slice A18770 n18771 c18772), (25, .slice (some ⟨g22357, 0, none⟩) 1 1)] (fun ac hA K hK => ?_) rfl rfl, trivial⟩
    obtain ⟨h22358, hF⟩ := chk_some hF
    have hr := hS.rd 0 rfl
    refine z_app 5 inf2 Tryd.underlying90 hA hS hr.1 hr.2.1 h22358 rfl (fun A22359 n22360 c22361 w hS => ?_) rfl rfl rfl rfl rfl rfl
    refine hK _ [] _ rfl ?_
    refine dEff [6, 11] [10] (by kernel_rfl) ⟨pu rfl rfl [(6, .slice A18774 n18775 c18776)] (fun ac hA => y_move hA rfl rfl) rfl rfl, pu rfl rfl [(7, .slice A18778 n18779 c18780)] (fun ac hA => y_move hA rfl rfl) rfl rfl, trivial⟩ (by kernel_rfl) (by kernel_rfl) ⟨ef rfl [(27, .slice A18774 n18775 c18776), (30, .slice (some ⟨g22356, 0, none⟩) 1 1)] (fun ac hA K hK => ?_) rfl rfl, trivial⟩
    obtain ⟨h22362, hF⟩ := chk_some hF
    have hr := hS.rd 2 rfl
    refine z_app 6 inf2 Tryd.underlying90 hA hS hr.1 hr.2.1 h22362 rfl (fun A22363 n22364 c22365 w hS => ?_) rfl rfl rfl rfl rfl rfl
    refine hK _ [] _ rfl ?_
    refine dEff [11] [15] (by kernel_rfl) ⟨pu rfl rfl [(7, .slice A18778 n18779 c18780)] (fun ac hA => y_move hA rfl rfl) rfl rfl, trivial⟩ (by kernel_rfl) (by kernel_rfl) ⟨ef rfl [(32, .slice A18778 n18779 c18780), (35, .slice (some ⟨g22328, 0, none⟩) 1 1)] (fun ac hA K hK => ?_) rfl rfl, trivial⟩
    obtain ⟨h22366, hF⟩ := chk_some hF
    have hr := hS.rd 4 rfl
    refine z_app 7 inf2 Tryd.underlying90 hA hS hr.1 hr.2.1 h22366 rfl (fun A22367 n22368 c22369 w hS => ?_) rfl rfl rfl rfl rfl rfl
    refine hK _ [(16, .slice A22359 n22360 c22361), (17, .slice A22363 n22364 c22365), (18, .slice A22367 n22368 c22369)] _ rfl ?_
    refine dEnd [16, 17, 18] (by kernel_rfl) ⟨pu rfl rfl [(26, .slice A22359 n22360 c22361)] (fun ac hA => y_assign hA rfl rfl) rfl rfl, pu rfl rfl [(31, .slice A22363 n22364 c22365)] (fun ac hA => y_assign hA rfl rfl) rfl rfl, pu rfl rfl [(36, .slice A22367 n22368 c22369)] (fun ac hA => y_assign hA rfl rfl) rfl rfl, trivial⟩ ⟨by kernel_rfl, by kernel_rfl⟩ [(0, .slice A0 n0 c0), (5, .slice A22359 n22360 c22361), (6, .slice A22363 n22364 c22365), (7, .slice A22367 n22368 c22369), (8, .slice A18782 n18783 c18784), (9, .slice A18786 n18787 c18788), (11, .pointer (some ⟨g21945, 0, none⟩)), (15, .slice A1 n1 c1), (16, .int .i64 (a1.length : Int)), (17, .int .i64 x18789)] rfl (fun ac hA => ?_)
    replace hS := hS.drop 3
    replace hS := hS.drop 3
    replace hS := hS.drop 3
    replace hS := hS.pk 7
    replace hS := hS.pk 7
    replace hS := hS.pk 7
    replace hS := hS.pk 3
    replace hS := hS.pk 4
    replace hS := hS.pk 5
    replace hS := hS.pk 7
    replace hS := hS.pk 7
    exact hj1 (l18769 ++ [x22178]) hF A22359 n22360 c22361 A22363 n22364 c22365 A22367 n22368 c22369 ac w (hA.sub _ rfl) hS
 replace hF := iff' hb20604 hF
 refine wp_exit ?_
 cases hF
 exact hx20600_0 l18769 l18773 l18777 l18781 l18785 (T20600_ _ rfl) A18770 n18771 c18772 A18774 n18775 c18776 A18778 n18779 c18780 A18782 n18783 c18784 A18786 n18787 c18788 ac w (hA.sub _ rfl) hS
end Go.Proofs.YteodeedejjcmgaaDoor.M
namespace Go.Proofs.YteodeedejjcmgaaDoor.M
open Go Go.RowKit Go.Proofs.YteodeedejjcmgaaDoor.E
set_option linter.unusedVariables false
set_option linter.unusedSimpArgs false
noncomputable def segment_Filter_Wants (a0 : S33) (a1 : S44) : Option (Bool) :=
  if (decide (a0.f0 ≤ a1.f0)) = true then (if (decide (a1.f0 < a0.f1)) = true then (if (decide (a0.f2 ≤ a1.f2)) = true then (some (decide (a1.f2 ≤ a0.f3))) else (some false)) else (some false)) else (some false)
noncomputable def segment_Filter_May (a0 : S33) (a1 : S41) : Option (Bool) :=
  if (decide (a0.f0 < a0.f1)) = true then (if (decide (a0.f0 ≤ a1.f3)) = true then (if (decide (a1.f2 < a0.f1)) = true then (if (decide (a0.f2 ≤ a0.f3)) = true then (if (decide (a0.f2 ≤ a1.f5)) = true then (some (decide (a1.f4 ≤ a0.f3))) else (some false)) else (some false)) else (some false)) else (some false)) else (some false)
noncomputable def segment_chunk_b1 (a0 : (List S44)) (a1 : Int) (x341 : Int) (x342 : Int) (x343 : Int) (x344 : Int) (s345 : (List UInt8)) (s346 : (List UInt8)) : Option (S41) :=
  some (⟨(a0.length : Int), a1, x341, x342, x343, x344, s345, s346⟩ : S41)
noncomputable def segment_chunk_x1_0 (a0 : (List S44)) (a1 : Int) (x397 : Int) (x398 : Int) (x399 : Int) (x400 : Int) (s401 : (List UInt8)) (s402 : (List UInt8)) : Option (S41) :=
  segment_chunk_b1 a0 a1 x397 x398 x399 x400 s401 s402
noncomputable def segment_chunk_l1 (a0 : (List S44)) (x369 : Int) (x370 : Int) (x371 : Int) (x372 : Int) (s373 : (List UInt8)) (s374 : (List UInt8)) (x375 : Int) : Option ((Int × Int × Int × Int × (List UInt8) × (List UInt8) × Int) ⊕ ((Int × Int × Int × Int × (List UInt8) × (List UInt8)))) :=
  if (decide (x375 < (a0.length : Int))) = true then ((at_ a0 x375).bind fun x410 => (ltt (IntKind.i64.wrap (x375 + 1)) fun x416 => (some (.inl (if x410.f0 < x369 then x410.f0 else x369, if x370 < x410.f0 then x410.f0 else x370, if x410.f2 < x371 then x410.f2 else x371, if x372 < x410.f2 then x410.f2 else x372, if (Op.bytesLess s373 x410.f3 || s373 == x410.f3) = true then s373 else x410.f3, if Op.bytesLess s374 x410.f3 = true then x410.f3 else s374, x416))))) else (some (.inr (x369, x370, x371, x372, s373, s374)))
noncomputable def segment_chunk (a0 : (List S44)) (a1 : Int) : Option (S41) :=
  (at_ a0 0).bind fun x104 => ((loop (fun s => segment_chunk_l1 a0 s.1 s.2.1 s.2.2.1 s.2.2.2.1 s.2.2.2.2.1 s.2.2.2.2.2.1 s.2.2.2.2.2.2) (x104.f0, x104.f0, x104.f2, x104.f2, x104.f3, x104.f3, 0)).bind fun t => segment_chunk_x1_0 a0 a1 t.1 t.2.1 t.2.2.1 t.2.2.2.1 t.2.2.2.2.1 t.2.2.2.2.2)
end Go.Proofs.YteodeedejjcmgaaDoor.M
namespace Go.Proofs.YteodeedejjcmgaaDoor.M
open Go Go.RowKit Go.Proofs.YteodeedejjcmgaaDoor.E
set_option linter.unusedVariables false
set_option maxRecDepth 100000
set_option maxHeartbeats 4000000
set_option linter.unusedSimpArgs false
theorem F_segment_Filter_Wants {r : World} {L : List HP} {w : World} (a0 : S33) (a1 : S44) {y : (Bool)} (hF : segment_Filter_Wants a0 a1 = some y) (hS : SH r (L) w) :
  Ret Tryd.prog 16 #[.agg #[.int .u64 a0.f0, .int .u64 a0.f1, .int .i64 a0.f2, .int .i64 a0.f3], .agg #[.int .u64 a1.f0, .int .i64 a1.f1, .int .i64 a1.f2, str a1.f3, .float .f64 a1.f4]] w fun v w' => v = .bool y ∧ SH r (L) w' := by
 refine enter Tryd.func16 rfl Tryd.ntmps16 [(0, .agg #[.int .u64 a0.f0, .int .u64 a0.f1, .int .i64 a0.f2, .int .i64 a0.f3]), (1, .agg #[.int .u64 a1.f0, .int .i64 a1.f1, .int .i64 a1.f2, str a1.f3, .float .f64 a1.f4])] rfl (by simp) ?_
 intro ac hA Qf hQ hQn
 unfold segment_Filter_Wants at hF
 refine ws fun K101 hK101 => ?_
 refine x_box hA hS (fun g102 ac w hS hA => ?_) rfl rfl rfl rfl rfl rfl
 refine x_box hA hS (fun g103 ac w hS hA => ?_) rfl rfl rfl rfl rfl rfl
 refine x_m hA rfl fun ac hA => ?_
 refine wn (hK101 _ _ ?_)
 refine ws fun K104 hK104 => ?_
 refine x_fab fa44_0 hA (fun ac hA => ?_) rfl rfl rfl rfl rfl
 refine x_ld Tryd.underlying31 (hS.cell 0 rfl 0 _ rfl) hA (fun ac hA => ?_) rfl rfl rfl rfl rfl rfl
 refine x_fab fa33_0 hA (fun ac hA => ?_) rfl rfl rfl rfl rfl
 refine x_ld Tryd.underlying31 (hS.cell 1 rfl 0 _ rfl) hA (fun ac hA => ?_) rfl rfl rfl rfl rfl rfl
 refine x_v hA (r_geI rfl (hA.ev rfl) (hA.ev rfl)) rfl fun ac hA => ?_
 refine x_m hA rfl fun ac hA => ?_
 refine bcase (b := decide (a0.f0 ≤ a1.f0)) (fun hb105 => ?_) fun hb105 => ?_
 ·replace hF := ift hb105 hF
  refine x_on hb105 hA ?_ rfl rfl rfl
  refine x_fab fa44_0 hA (fun ac hA => ?_) rfl rfl rfl rfl rfl
  refine x_on hb105 hA ?_ rfl rfl rfl
  refine x_ld Tryd.underlying31 (hS.cell 0 rfl 0 _ rfl) hA (fun ac hA => ?_) rfl rfl rfl rfl rfl rfl
  refine x_on hb105 hA ?_ rfl rfl rfl
  refine x_fab fa33_1 hA (fun ac hA => ?_) rfl rfl rfl rfl rfl
  refine x_on hb105 hA ?_ rfl rfl rfl
  refine x_ld Tryd.underlying31 (hS.cell 1 rfl 1 _ rfl) hA (fun ac hA => ?_) rfl rfl rfl rfl rfl rfl
  refine x_on hb105 hA ?_ rfl rfl rfl
  refine x_v hA (r_ltI rfl (hA.ev rfl) (hA.ev rfl)) rfl fun ac hA => ?_
  refine x_pickt hb105 hA (fun ac hA => ?_) rfl rfl rfl rfl rfl rfl
  refine x_m hA rfl fun ac hA => ?_
  refine bcase (b := decide (a1.f0 < a0.f1)) (fun hb106 => ?_) fun hb106 => ?_
  ·replace hF := ift hb106 hF
   refine x_on hb106 hA ?_ rfl rfl rfl
   refine x_fab fa44_2 hA (fun ac hA => ?_) rfl rfl rfl rfl rfl
   refine x_on hb106 hA ?_ rfl rfl rfl
   refine x_ld Tryd.underlying2 (hS.cell 0 rfl 2 _ rfl) hA (fun ac hA => ?_) rfl rfl rfl rfl rfl rfl
   refine x_on hb106 hA ?_ rfl rfl rfl
   refine x_fab fa33_2 hA (fun ac hA => ?_) rfl rfl rfl rfl rfl
   refine x_on hb106 hA ?_ rfl rfl rfl
   refine x_ld Tryd.underlying2 (hS.cell 1 rfl 2 _ rfl) hA (fun ac hA => ?_) rfl rfl rfl rfl rfl rfl
   refine x_on hb106 hA ?_ rfl rfl rfl
   refine x_v hA (r_geI rfl (hA.ev rfl) (hA.ev rfl)) rfl fun ac hA => ?_
   refine x_pickt hb106 hA (fun ac hA => ?_) rfl rfl rfl rfl rfl rfl
   refine x_m hA rfl fun ac hA => ?_
   refine bcase (b := decide (a0.f2 ≤ a1.f2)) (fun hb107 => ?_) fun hb107 => ?_
   ·replace hF := ift hb107 hF
    refine x_on hb107 hA ?_ rfl rfl rfl
    refine x_fab fa44_2 hA (fun ac hA => ?_) rfl rfl rfl rfl rfl
    refine x_on hb107 hA ?_ rfl rfl rfl
    refine x_ld Tryd.underlying2 (hS.cell 0 rfl 2 _ rfl) hA (fun ac hA => ?_) rfl rfl rfl rfl rfl rfl
    refine x_on hb107 hA ?_ rfl rfl rfl
    refine x_fab fa33_3 hA (fun ac hA => ?_) rfl rfl rfl rfl rfl
    refine x_on hb107 hA ?_ rfl rfl rfl
    refine x_ld Tryd.underlying2 (hS.cell 1 rfl 3 _ rfl) hA (fun ac hA => ?_) rfl rfl rfl rfl rfl rfl
    refine x_on hb107 hA ?_ rfl rfl rfl
    refine x_v hA (r_leI rfl (hA.ev rfl) (hA.ev rfl)) rfl fun ac hA => ?_
    refine x_pickt hb107 hA (fun ac hA => ?_) rfl rfl rfl rfl rfl rfl
    refine x_m hA rfl fun ac hA => ?_
    refine wn (hK104 _ _ ?_)
    refine wp_ret ?_
    replace hS := hS.drop 0
    replace hS := hS.drop 0
    cases hF
    refine hQ _ _ ?_
    refine lv Tryd.results16 hA rfl ?_
    exact ⟨rfl, hS⟩
   replace hF := iff' hb107 hF
   refine x_off hb107 hA (fun ac hA => ?_) rfl rfl rfl rfl rfl
   refine x_off hb107 hA (fun ac hA => ?_) rfl rfl rfl rfl rfl
   refine x_off hb107 hA (fun ac hA => ?_) rfl rfl rfl rfl rfl
   refine x_off hb107 hA (fun ac hA => ?_) rfl rfl rfl rfl rfl
   refine x_off hb107 hA (fun ac hA => ?_) rfl rfl rfl rfl rfl
   refine x_pickf hb107 hA (fun ac hA => ?_) rfl rfl rfl rfl rfl rfl
   refine x_m hA rfl fun ac hA => ?_
   refine wn (hK104 _ _ ?_)
   refine wp_ret ?_
   replace hS := hS.drop 0
   replace hS := hS.drop 0
   cases hF
   refine hQ _ _ ?_
   refine lv Tryd.results16 hA rfl ?_
   exact ⟨rfl, hS⟩
  replace hF := iff' hb106 hF
  refine x_off hb106 hA (fun ac hA => ?_) rfl rfl rfl rfl rfl
  refine x_off hb106 hA (fun ac hA => ?_) rfl rfl rfl rfl rfl
  refine x_off hb106 hA (fun ac hA => ?_) rfl rfl rfl rfl rfl
  refine x_off hb106 hA (fun ac hA => ?_) rfl rfl rfl rfl rfl
  refine x_off hb106 hA (fun ac hA => ?_) rfl rfl rfl rfl rfl
  refine x_pickf hb106 hA (fun ac hA => ?_) rfl rfl rfl rfl rfl rfl
  refine x_m hA rfl fun ac hA => ?_
  refine x_off rfl hA (fun ac hA => ?_) rfl rfl rfl rfl rfl
  refine x_off rfl hA (fun ac hA => ?_) rfl rfl rfl rfl rfl
  refine x_off rfl hA (fun ac hA => ?_) rfl rfl rfl rfl rfl
  refine x_off rfl hA (fun ac hA => ?_) rfl rfl rfl rfl rfl
  refine x_off rfl hA (fun ac hA => ?_) rfl rfl rfl rfl rfl
  refine x_pickf rfl hA (fun ac hA => ?_) rfl rfl rfl rfl rfl rfl
  refine x_m hA rfl fun ac hA => ?_
  refine wn (hK104 _ _ ?_)
  refine wp_ret ?_
  replace hS := hS.drop 0
  replace hS := hS.drop 0
  cases hF
  refine hQ _ _ ?_
  refine lv Tryd.results16 hA rfl ?_
  exact ⟨rfl, hS⟩
 replace hF := iff' hb105 hF
 refine x_off hb105 hA (fun ac hA => ?_) rfl rfl rfl rfl rfl
 refine x_off hb105 hA (fun ac hA => ?_) rfl rfl rfl rfl rfl
 refine x_off hb105 hA (fun ac hA => ?_) rfl rfl rfl rfl rfl
 refine x_off hb105 hA (fun ac hA => ?_) rfl rfl rfl rfl rfl
 refine x_off hb105 hA (fun ac hA => ?_) rfl rfl rfl rfl rfl
 refine x_pickf hb105 hA (fun ac hA => ?_) rfl rfl rfl rfl rfl rfl
 refine x_m hA rfl fun ac hA => ?_
 refine x_off rfl hA (fun ac hA => ?_) rfl rfl rfl rfl rfl
 refine x_off rfl hA (fun ac hA => ?_) rfl rfl rfl rfl rfl
 refine x_off rfl hA (fun ac hA => ?_) rfl rfl rfl rfl rfl
 refine x_off rfl hA (fun ac hA => ?_) rfl rfl rfl rfl rfl
 refine x_off rfl hA (fun ac hA => ?_) rfl rfl rfl rfl rfl
 refine x_pickf rfl hA (fun ac hA => ?_) rfl rfl rfl rfl rfl rfl
 refine x_m hA rfl fun ac hA => ?_
 refine x_off rfl hA (fun ac hA => ?_) rfl rfl rfl rfl rfl
 refine x_off rfl hA (fun ac hA => ?_) rfl rfl rfl rfl rfl
 refine x_off rfl hA (fun ac hA => ?_) rfl rfl rfl rfl rfl
 refine x_off rfl hA (fun ac hA => ?_) rfl rfl rfl rfl rfl
 refine x_off rfl hA (fun ac hA => ?_) rfl rfl rfl rfl rfl
 refine x_pickf rfl hA (fun ac hA => ?_) rfl rfl rfl rfl rfl rfl
 refine x_m hA rfl fun ac hA => ?_
 refine wn (hK104 _ _ ?_)
 refine wp_ret ?_
 replace hS := hS.drop 0
 replace hS := hS.drop 0
 cases hF
 refine hQ _ _ ?_
 refine lv Tryd.results16 hA rfl ?_
 exact ⟨rfl, hS⟩
theorem F_segment_Filter_May {r : World} {L : List HP} {w : World} (a0 : S33) (a1 : S41) {y : (Bool)} (hF : segment_Filter_May a0 a1 = some y) (hS : SH r (L) w) :
  Ret Tryd.prog 17 #[.agg #[.int .u64 a0.f0, .int .u64 a0.f1, .int .i64 a0.f2, .int .i64 a0.f3], .agg #[.int .i64 a1.f0, .int .i64 a1.f1, .int .u64 a1.f2, .int .u64 a1.f3, .int .i64 a1.f4, .int .i64 a1.f5, str a1.f6, str a1.f7]] w fun v w' => v = .bool y ∧ SH r (L) w' := by
 refine enter Tryd.func17 rfl Tryd.ntmps17 [(0, .agg #[.int .u64 a0.f0, .int .u64 a0.f1, .int .i64 a0.f2, .int .i64 a0.f3]), (1, .agg #[.int .i64 a1.f0, .int .i64 a1.f1, .int .u64 a1.f2, .int .u64 a1.f3, .int .i64 a1.f4, .int .i64 a1.f5, str a1.f6, str a1.f7])] rfl (by simp) ?_
 intro ac hA Qf hQ hQn
 unfold segment_Filter_May at hF
 refine ws fun K101 hK101 => ?_
 refine x_box hA hS (fun g102 ac w hS hA => ?_) rfl rfl rfl rfl rfl rfl
 refine x_box hA hS (fun g103 ac w hS hA => ?_) rfl rfl rfl rfl rfl rfl
 refine x_m hA rfl fun ac hA => ?_
 refine wn (hK101 _ _ ?_)
 refine ws fun K104 hK104 => ?_
 refine x_fab fa33_0 hA (fun ac hA => ?_) rfl rfl rfl rfl rfl
 refine x_ld Tryd.underlying31 (hS.cell 1 rfl 0 _ rfl) hA (fun ac hA => ?_) rfl rfl rfl rfl rfl rfl
 refine x_fab fa33_1 hA (fun ac hA => ?_) rfl rfl rfl rfl rfl
 refine x_ld Tryd.underlying31 (hS.cell 1 rfl 1 _ rfl) hA (fun ac hA => ?_) rfl rfl rfl rfl rfl rfl
 refine x_v hA (r_ltI rfl (hA.ev rfl) (hA.ev rfl)) rfl fun ac hA => ?_
 refine x_m hA rfl fun ac hA => ?_
 refine bcase (b := decide (a0.f0 < a0.f1)) (fun hb105 => ?_) fun hb105 => ?_
 ·replace hF := ift hb105 hF
  refine x_on hb105 hA ?_ rfl rfl rfl
  refine x_fab fa41_3 hA (fun ac hA => ?_) rfl rfl rfl rfl rfl
  refine x_on hb105 hA ?_ rfl rfl rfl
  refine x_ld Tryd.underlying31 (hS.cell 0 rfl 3 _ rfl) hA (fun ac hA => ?_) rfl rfl rfl rfl rfl rfl
  refine x_on hb105 hA ?_ rfl rfl rfl
  refine x_fab fa33_0 hA (fun ac hA => ?_) rfl rfl rfl rfl rfl
  refine x_on hb105 hA ?_ rfl rfl rfl
  refine x_ld Tryd.underlying31 (hS.cell 1 rfl 0 _ rfl) hA (fun ac hA => ?_) rfl rfl rfl rfl rfl rfl
  refine x_on hb105 hA ?_ rfl rfl rfl
  refine x_v hA (r_geI rfl (hA.ev rfl) (hA.ev rfl)) rfl fun ac hA => ?_
  refine x_pickt hb105 hA (fun ac hA => ?_) rfl rfl rfl rfl rfl rfl
  refine x_m hA rfl fun ac hA => ?_
  refine bcase (b := decide (a0.f0 ≤ a1.f3)) (fun hb106 => ?_) fun hb106 => ?_
  ·replace hF := ift hb106 hF
   refine x_on hb106 hA ?_ rfl rfl rfl
   refine x_fab fa41_2 hA (fun ac hA => ?_) rfl rfl rfl rfl rfl
   refine x_on hb106 hA ?_ rfl rfl rfl
   refine x_ld Tryd.underlying31 (hS.cell 0 rfl 2 _ rfl) hA (fun ac hA => ?_) rfl rfl rfl rfl rfl rfl
   refine x_on hb106 hA ?_ rfl rfl rfl
   refine x_fab fa33_1 hA (fun ac hA => ?_) rfl rfl rfl rfl rfl
   refine x_on hb106 hA ?_ rfl rfl rfl
   refine x_ld Tryd.underlying31 (hS.cell 1 rfl 1 _ rfl) hA (fun ac hA => ?_) rfl rfl rfl rfl rfl rfl
   refine x_on hb106 hA ?_ rfl rfl rfl
   refine x_v hA (r_ltI rfl (hA.ev rfl) (hA.ev rfl)) rfl fun ac hA => ?_
   refine x_pickt hb106 hA (fun ac hA => ?_) rfl rfl rfl rfl rfl rfl
   refine x_m hA rfl fun ac hA => ?_
   refine bcase (b := decide (a1.f2 < a0.f1)) (fun hb107 => ?_) fun hb107 => ?_
   ·replace hF := ift hb107 hF
    refine x_on hb107 hA ?_ rfl rfl rfl
    refine x_fab fa33_2 hA (fun ac hA => ?_) rfl rfl rfl rfl rfl
    refine x_on hb107 hA ?_ rfl rfl rfl
    refine x_ld Tryd.underlying2 (hS.cell 1 rfl 2 _ rfl) hA (fun ac hA => ?_) rfl rfl rfl rfl rfl rfl
    refine x_on hb107 hA ?_ rfl rfl rfl
    refine x_fab fa33_3 hA (fun ac hA => ?_) rfl rfl rfl rfl rfl
    refine x_on hb107 hA ?_ rfl rfl rfl
    refine x_ld Tryd.underlying2 (hS.cell 1 rfl 3 _ rfl) hA (fun ac hA => ?_) rfl rfl rfl rfl rfl rfl
    refine x_on hb107 hA ?_ rfl rfl rfl
    refine x_v hA (r_leI rfl (hA.ev rfl) (hA.ev rfl)) rfl fun ac hA => ?_
    refine x_pickt hb107 hA (fun ac hA => ?_) rfl rfl rfl rfl rfl rfl
    refine x_m hA rfl fun ac hA => ?_
    refine bcase (b := decide (a0.f2 ≤ a0.f3)) (fun hb108 => ?_) fun hb108 => ?_
    ·replace hF := ift hb108 hF
     refine x_on hb108 hA ?_ rfl rfl rfl
     refine x_fab fa41_5 hA (fun ac hA => ?_) rfl rfl rfl rfl rfl
     refine x_on hb108 hA ?_ rfl rfl rfl
     refine x_ld Tryd.underlying2 (hS.cell 0 rfl 5 _ rfl) hA (fun ac hA => ?_) rfl rfl rfl rfl rfl rfl
     refine x_on hb108 hA ?_ rfl rfl rfl
     refine x_fab fa33_2 hA (fun ac hA => ?_) rfl rfl rfl rfl rfl
     refine x_on hb108 hA ?_ rfl rfl rfl
     refine x_ld Tryd.underlying2 (hS.cell 1 rfl 2 _ rfl) hA (fun ac hA => ?_) rfl rfl rfl rfl rfl rfl
     refine x_on hb108 hA ?_ rfl rfl rfl
     refine x_v hA (r_geI rfl (hA.ev rfl) (hA.ev rfl)) rfl fun ac hA => ?_
     refine x_pickt hb108 hA (fun ac hA => ?_) rfl rfl rfl rfl rfl rfl
     refine x_m hA rfl fun ac hA => ?_
     refine bcase (b := decide (a0.f2 ≤ a1.f5)) (fun hb109 => ?_) fun hb109 => ?_
     ·replace hF := ift hb109 hF
      refine x_on hb109 hA ?_ rfl rfl rfl
      refine x_fab fa41_4 hA (fun ac hA => ?_) rfl rfl rfl rfl rfl
      refine x_on hb109 hA ?_ rfl rfl rfl
      refine x_ld Tryd.underlying2 (hS.cell 0 rfl 4 _ rfl) hA (fun ac hA => ?_) rfl rfl rfl rfl rfl rfl
      refine x_on hb109 hA ?_ rfl rfl rfl
      refine x_fab fa33_3 hA (fun ac hA => ?_) rfl rfl rfl rfl rfl
      refine x_on hb109 hA ?_ rfl rfl rfl
      refine x_ld Tryd.underlying2 (hS.cell 1 rfl 3 _ rfl) hA (fun ac hA => ?_) rfl rfl rfl rfl rfl rfl
      refine x_on hb109 hA ?_ rfl rfl rfl
      refine x_v hA (r_leI rfl (hA.ev rfl) (hA.ev rfl)) rfl fun ac hA => ?_
      refine x_pickt hb109 hA (fun ac hA => ?_) rfl rfl rfl rfl rfl rfl
      refine x_m hA rfl fun ac hA => ?_
      refine wn (hK104 _ _ ?_)
      refine wp_ret ?_
      replace hS := hS.drop 0
      replace hS := hS.drop 0
      cases hF
      refine hQ _ _ ?_
      refine lv Tryd.results17 hA rfl ?_
      exact ⟨rfl, hS⟩
     replace hF := iff' hb109 hF
     refine x_off hb109 hA (fun ac hA => ?_) rfl rfl rfl rfl rfl
     refine x_off hb109 hA (fun ac hA => ?_) rfl rfl rfl rfl rfl
     refine x_off hb109 hA (fun ac hA => ?_) rfl rfl rfl rfl rfl
     refine x_off hb109 hA (fun ac hA => ?_) rfl rfl rfl rfl rfl
     refine x_off hb109 hA (fun ac hA => ?_) rfl rfl rfl rfl rfl
     refine x_pickf hb109 hA (fun ac hA => ?_) rfl rfl rfl rfl rfl rfl
     refine x_m hA rfl fun ac hA => ?_
     refine wn (hK104 _ _ ?_)
     refine wp_ret ?_
     replace hS := hS.drop 0
     replace hS := hS.drop 0
     cases hF
     refine hQ _ _ ?_
     refine lv Tryd.results17 hA rfl ?_
     exact ⟨rfl, hS⟩
    replace hF := iff' hb108 hF
    refine x_off hb108 hA (fun ac hA => ?_) rfl rfl rfl rfl rfl
    refine x_off hb108 hA (fun ac hA => ?_) rfl rfl rfl rfl rfl
    refine x_off hb108 hA (fun ac hA => ?_) rfl rfl rfl rfl rfl
    refine x_off hb108 hA (fun ac hA => ?_) rfl rfl rfl rfl rfl
    refine x_off hb108 hA (fun ac hA => ?_) rfl rfl rfl rfl rfl
    refine x_pickf hb108 hA (fun ac hA => ?_) rfl rfl rfl rfl rfl rfl
    refine x_m hA rfl fun ac hA => ?_
    refine x_off rfl hA (fun ac hA => ?_) rfl rfl rfl rfl rfl
    refine x_off rfl hA (fun ac hA => ?_) rfl rfl rfl rfl rfl
    refine x_off rfl hA (fun ac hA => ?_) rfl rfl rfl rfl rfl
    refine x_off rfl hA (fun ac hA => ?_) rfl rfl rfl rfl rfl
    refine x_off rfl hA (fun ac hA => ?_) rfl rfl rfl rfl rfl
    refine x_pickf rfl hA (fun ac hA => ?_) rfl rfl rfl rfl rfl rfl
    refine x_m hA rfl fun ac hA => ?_
    refine wn (hK104 _ _ ?_)
    refine wp_ret ?_
    replace hS := hS.drop 0
    replace hS := hS.drop 0
    cases hF
    refine hQ _ _ ?_
    refine lv Tryd.results17 hA rfl ?_
    exact ⟨rfl, hS⟩
   replace hF := iff' hb107 hF
   refine x_off hb107 hA (fun ac hA => ?_) rfl rfl rfl rfl rfl
   refine x_off hb107 hA (fun ac hA => ?_) rfl rfl rfl rfl rfl
   refine x_off hb107 hA (fun ac hA => ?_) rfl rfl rfl rfl rfl
   refine x_off hb107 hA (fun ac hA => ?_) rfl rfl rfl rfl rfl
   refine x_off hb107 hA (fun ac hA => ?_) rfl rfl rfl rfl rfl
   refine x_pickf hb107 hA (fun ac hA => ?_) rfl rfl rfl rfl rfl rfl
   refine x_m hA rfl fun ac hA => ?_
   refine x_off rfl hA (fun ac hA => ?_) rfl rfl rfl rfl rfl
   refine x_off rfl hA (fun ac hA => ?_) rfl rfl rfl rfl rfl
   refine x_off rfl hA (fun ac hA => ?_) rfl rfl rfl rfl rfl
   refine x_off rfl hA (fun ac hA => ?_) rfl rfl rfl rfl rfl
   refine x_off rfl hA (fun ac hA => ?_) rfl rfl rfl rfl rfl
   refine x_pickf rfl hA (fun ac hA => ?_) rfl rfl rfl rfl rfl rfl
   refine x_m hA rfl fun ac hA => ?_
   refine x_off rfl hA (fun ac hA => ?_) rfl rfl rfl rfl rfl
   refine x_off rfl hA (fun ac hA => ?_) rfl rfl rfl rfl rfl
   refine x_off rfl hA (fun ac hA => ?_) rfl rfl rfl rfl rfl
   refine x_off rfl hA (fun ac hA => ?_) rfl rfl rfl rfl rfl
   refine x_off rfl hA (fun ac hA => ?_) rfl rfl rfl rfl rfl
   refine x_pickf rfl hA (fun ac hA => ?_) rfl rfl rfl rfl rfl rfl
   refine x_m hA rfl fun ac hA => ?_
   refine wn (hK104 _ _ ?_)
   refine wp_ret ?_
   replace hS := hS.drop 0
   replace hS := hS.drop 0
   cases hF
   refine hQ _ _ ?_
   refine lv Tryd.results17 hA rfl ?_
   exact ⟨rfl, hS⟩
  replace hF := iff' hb106 hF
  refine x_off hb106 hA (fun ac hA => ?_) rfl rfl rfl rfl rfl
  refine x_off hb106 hA (fun ac hA => ?_) rfl rfl rfl rfl rfl
  refine x_off hb106 hA (fun ac hA => ?_) rfl rfl rfl rfl rfl
  refine x_off hb106 hA (fun ac hA => ?_) rfl rfl rfl rfl rfl
  refine x_off hb106 hA (fun ac hA => ?_) rfl rfl rfl rfl rfl
  refine x_pickf hb106 hA (fun ac hA => ?_) rfl rfl rfl rfl rfl rfl
  refine x_m hA rfl fun ac hA => ?_
  refine x_off rfl hA (fun ac hA => ?_) rfl rfl rfl rfl rfl
  refine x_off rfl hA (fun ac hA => ?_) rfl rfl rfl rfl rfl
  refine x_off rfl hA (fun ac hA => ?_) rfl rfl rfl rfl rfl
  refine x_off rfl hA (fun ac hA => ?_) rfl rfl rfl rfl rfl
  refine x_off rfl hA (fun ac hA => ?_) rfl rfl rfl rfl rfl
  refine x_pickf rfl hA (fun ac hA => ?_) rfl rfl rfl rfl rfl rfl
  refine x_m hA rfl fun ac hA => ?_
  refine x_off rfl hA (fun ac hA => ?_) rfl rfl rfl rfl rfl
  refine x_off rfl hA (fun ac hA => ?_) rfl rfl rfl rfl rfl
  refine x_off rfl hA (fun ac hA => ?_) rfl rfl rfl rfl rfl
  refine x_off rfl hA (fun ac hA => ?_) rfl rfl rfl rfl rfl
  refine x_off rfl hA (fun ac hA => ?_) rfl rfl rfl rfl rfl
  refine x_pickf rfl hA (fun ac hA => ?_) rfl rfl rfl rfl rfl rfl
  refine x_m hA rfl fun ac hA => ?_
  refine x_off rfl hA (fun ac hA => ?_) rfl rfl rfl rfl rfl
  refine x_off rfl hA (fun ac hA => ?_) rfl rfl rfl rfl rfl
  refine x_off rfl hA (fun ac hA => ?_) rfl rfl rfl rfl rfl
  refine x_off rfl hA (fun ac hA => ?_) rfl rfl rfl rfl rfl
  refine x_off rfl hA (fun ac hA => ?_) rfl rfl rfl rfl rfl
  refine x_pickf rfl hA (fun ac hA => ?_) rfl rfl rfl rfl rfl rfl
  refine x_m hA rfl fun ac hA => ?_
  refine wn (hK104 _ _ ?_)
  refine wp_ret ?_
  replace hS := hS.drop 0
  replace hS := hS.drop 0
  cases hF
  refine hQ _ _ ?_
  refine lv Tryd.results17 hA rfl ?_
  exact ⟨rfl, hS⟩
 replace hF := iff' hb105 hF
 refine x_off hb105 hA (fun ac hA => ?_) rfl rfl rfl rfl rfl
 refine x_off hb105 hA (fun ac hA => ?_) rfl rfl rfl rfl rfl
 refine x_off hb105 hA (fun ac hA => ?_) rfl rfl rfl rfl rfl
 refine x_off hb105 hA (fun ac hA => ?_) rfl rfl rfl rfl rfl
 refine x_off hb105 hA (fun ac hA => ?_) rfl rfl rfl rfl rfl
 refine x_pickf hb105 hA (fun ac hA => ?_) rfl rfl rfl rfl rfl rfl
 refine x_m hA rfl fun ac hA => ?_
 refine x_off rfl hA (fun ac hA => ?_) rfl rfl rfl rfl rfl
 refine x_off rfl hA (fun ac hA => ?_) rfl rfl rfl rfl rfl
 refine x_off rfl hA (fun ac hA => ?_) rfl rfl rfl rfl rfl
 refine x_off rfl hA (fun ac hA => ?_) rfl rfl rfl rfl rfl
 refine x_off rfl hA (fun ac hA => ?_) rfl rfl rfl rfl rfl
 refine x_pickf rfl hA (fun ac hA => ?_) rfl rfl rfl rfl rfl rfl
 refine x_m hA rfl fun ac hA => ?_
 refine x_off rfl hA (fun ac hA => ?_) rfl rfl rfl rfl rfl
 refine x_off rfl hA (fun ac hA => ?_) rfl rfl rfl rfl rfl
 refine x_off rfl hA (fun ac hA => ?_) rfl rfl rfl rfl rfl
 refine x_off rfl hA (fun ac hA => ?_) rfl rfl rfl rfl rfl
 refine x_off rfl hA (fun ac hA => ?_) rfl rfl rfl rfl rfl
 refine x_pickf rfl hA (fun ac hA => ?_) rfl rfl rfl rfl rfl rfl
 refine x_m hA rfl fun ac hA => ?_
 refine x_off rfl hA (fun ac hA => ?_) rfl rfl rfl rfl rfl
 refine x_off rfl hA (fun ac hA => ?_) rfl rfl rfl rfl rfl
 refine x_off rfl hA (fun ac hA => ?_) rfl rfl rfl rfl rfl
 refine x_off rfl hA (fun ac hA => ?_) rfl rfl rfl rfl rfl
 refine x_off rfl hA (fun ac hA => ?_) rfl rfl rfl rfl rfl
 refine x_pickf rfl hA (fun ac hA => ?_) rfl rfl rfl rfl rfl rfl
 refine x_m hA rfl fun ac hA => ?_
 refine x_off rfl hA (fun ac hA => ?_) rfl rfl rfl rfl rfl
 refine x_off rfl hA (fun ac hA => ?_) rfl rfl rfl rfl rfl
 refine x_off rfl hA (fun ac hA => ?_) rfl rfl rfl rfl rfl
 refine x_off rfl hA (fun ac hA => ?_) rfl rfl rfl rfl rfl
 refine x_off rfl hA (fun ac hA => ?_) rfl rfl rfl rfl rfl
 refine x_pickf rfl hA (fun ac hA => ?_) rfl rfl rfl rfl rfl rfl
 refine x_m hA rfl fun ac hA => ?_
 refine wn (hK104 _ _ ?_)
 refine wp_ret ?_
 replace hS := hS.drop 0
 replace hS := hS.drop 0
 cases hF
 refine hQ _ _ ?_
 refine lv Tryd.results17 hA rfl ?_
 exact ⟨rfl, hS⟩
theorem F_segment_chunk {r : World} {L : List HP} {w : World} (a0 : (List S44)) (a1 : Int) (A0 : Option Addr) (n0 : Nat) (c0 : Nat) {y : (S41)} (hF : segment_chunk a0 a1 = some y) (ha0 : RdL L k44 A0 n0 c0 a0) (hS : SH r (L) w) :
  Ret Tryd.prog 25 #[.slice A0 n0 c0, .int .i64 a1] w fun v w' => v = .agg #[.int .i64 y.f0, .int .i64 y.f1, .int .u64 y.f2, .int .u64 y.f3, .int .i64 y.f4, .int .i64 y.f5, str y.f6, str y.f7] ∧ SH r (L) w' := by
 refine enter Tryd.func25 rfl Tryd.ntmps25 [(0, .slice A0 n0 c0), (1, .int .i64 a1)] rfl (by simp) ?_
 intro ac hA Qf hQ hQn
 unfold segment_chunk at hF
 refine ws fun K101 hK101 => ?_
 refine x_alloc (cs := [.int .i64 0, .int .i64 0, .int .u64 0, .int .u64 0, .int .i64 0, .int .i64 0, str [], str []]) zr41 hA hS (fun g102 ac w hS hA => ?_) rfl rfl rfl rfl rfl
 refine wn (hK101 _ _ ?_)
 refine wp_seq_k fun K103 hK103 => ?_
 refine wp_draw [0, 1, 0, 0, 8, 24, 56, 0, 128, 384, 896, 0, 2048, 6144, 14336, 0, 32768, 98304, 229376, 0, 524288, 1572864, 3670016, 0, 8388608, 25165824, 58720256, 134217727, 0, 536870911] [28, 29] rfl hA hS (by kernel_rfl) (by kernel_rfl) (by kernel_rfl) (by kernel_rfl) fun w hS => ?_
 obtain ⟨x104, h105, hF⟩ := bnd hF
 obtain ⟨cs, hV, hc106⟩ := el (hS.rdl 1 ha0 rfl) h105
 obtain rfl := hV
 obtain ⟨cs, hV, hc107⟩ := el (hS.rdl 1 ha0 rfl) h105
 obtain rfl := hV
 obtain ⟨cs, hV, hc108⟩ := el (hS.rdl 1 ha0 rfl) h105
 obtain rfl := hV
 obtain ⟨cs, hV, hc109⟩ := el (hS.rdl 1 ha0 rfl) h105
 obtain rfl := hV
 obtain ⟨cs, hV, hc110⟩ := el (hS.rdl 1 ha0 rfl) h105
 obtain rfl := hV
 obtain ⟨cs, hV, hc111⟩ := el (hS.rdl 1 ha0 rfl) h105
 obtain rfl := hV
 refine ⟨[(0, .slice A0 n0 c0), (1, .int .i64 (a0.length : Int)), (2, .int .i64 a1), (3, .slice A0 n0 c0), (4, .pointer (some (ea A0 ((0 : Int).toNat * 5)))), (5, .pointer (some (ea A0 ((0 : Int).toNat * 5)))), (6, .int .u64 x104.f0), (7, .slice A0 n0 c0), (8, .pointer (some (ea A0 ((0 : Int).toNat * 5)))), (9, .pointer (some (ea A0 ((0 : Int).toNat * 5)))), (10, .int .u64 x104.f0), (11, .slice A0 n0 c0), (12, .pointer (some (ea A0 ((0 : Int).toNat * 5)))), (13, .pointer (some (ea A0 ((0 : Int).toNat * 5 + 2)))), (14, .int .i64 x104.f2), (15, .slice A0 n0 c0), (16, .pointer (some (ea A0 ((0 : Int).toNat * 5)))), (17, .pointer (some (ea A0 ((0 : Int).toNat * 5 + 2)))), (18, .int .i64 x104.f2), (19, .slice A0 n0 c0), (20, .pointer (some (ea A0 ((0 : Int).toNat * 5)))), (21, .pointer (some (ea A0 ((0 : Int).toNat * 5 + 3)))), (22, str x104.f3), (23, .slice A0 n0 c0), (24, .pointer (some (ea A0 ((0 : Int).toNat * 5)))), (25, .pointer (some (ea A0 ((0 : Int).toNat * 5 + 3)))), (26, str x104.f3), (27, .agg #[.int .i64 (a0.length : Int), .int .i64 a1, .int .u64 x104.f0, .int .u64 x104.f0, .int .i64 x104.f2, .int .i64 x104.f2, str x104.f3, str x104.f3])], ?_⟩
 refine dEff [0, 1, 2, 3, 4, 5, 6, 7, 8, 9, 10, 11, 12, 13, 14, 15, 16, 17, 18, 19, 20, 21, 22, 23, 24, 25, 26, 27] [28] (by kernel_rfl) ⟨pu rfl rfl [(0, .slice A0 n0 c0)] (fun ac hA => y_move hA rfl rfl) rfl rfl, pu rfl rfl [(8, .slice A0 n0 c0)] (fun ac hA => y_len Tryd.underlying22 (hS.rdl 1 ha0 rfl).2.1 hA rfl rfl) rfl rfl, pu rfl rfl [(1, .int .i64 a1)] (fun ac hA => y_move hA rfl rfl) rfl rfl, pu rfl rfl [(0, .slice A0 n0 c0)] (fun ac hA => y_move hA rfl rfl) rfl rfl, pu rfl rfl [(11, .slice A0 n0 c0)] (fun ac hA => y_ia Tryd.underlying22 sz44 (hS.rdl 1 ha0 rfl) h105 hA rfl rfl rfl) rfl rfl, pu rfl rfl [(12, .pointer (some (ea A0 ((0 : Int).toNat * 5))))] (fun ac hA => y_fae (m := (0 : Int).toNat * 5) fa44_0 hA rfl rfl) rfl rfl, pu rfl rfl [(13, .pointer (some (ea A0 ((0 : Int).toNat * 5))))] (fun ac hA => y_ld Tryd.underlying31 (hc106 0 _ rfl) hA rfl rfl rfl) rfl rfl, pu rfl rfl [(0, .slice A0 n0 c0)] (fun ac hA => y_move hA rfl rfl) rfl rfl, pu rfl rfl [(15, .slice A0 n0 c0)] (fun ac hA => y_ia Tryd.underlying22 sz44 (hS.rdl 1 ha0 rfl) h105 hA rfl rfl rfl) rfl rfl, pu rfl rfl [(16, .pointer (some (ea A0 ((0 : Int).toNat * 5))))] (fun ac hA => y_fae (m := (0 : Int).toNat * 5) fa44_0 hA rfl rfl) rfl rfl, pu rfl rfl [(17, .pointer (some (ea A0 ((0 : Int).toNat * 5))))] (fun ac hA => y_ld Tryd.underlying31 (hc107 0 _ rfl) hA rfl rfl rfl) rfl rfl, pu rfl rfl [(0, .slice A0 n0 c0)] (fun ac hA => y_move hA rfl rfl) rfl rfl, pu rfl rfl [(19, .slice A0 n0 c0)] (fun ac hA => y_ia Tryd.underlying22 sz44 (hS.rdl 1 ha0 rfl) h105 hA rfl rfl rfl) rfl rfl, pu rfl rfl [(20, .pointer (some (ea A0 ((0 : Int).toNat * 5))))] (fun ac hA => y_fae (m := (0 : Int).toNat * 5) fa44_2 hA rfl rfl) rfl rfl, pu rfl rfl [(21, .pointer (some (ea A0 ((0 : Int).toNat * 5 + 2))))] (fun ac hA => y_ld Tryd.underlying2 (hc108 2 _ rfl) hA rfl rfl rfl) rfl rfl, pu rfl rfl [(0, .slice A0 n0 c0)] (fun ac hA => y_move hA rfl rfl) rfl rfl, pu rfl rfl [(23, .slice A0 n0 c0)] (fun ac hA => y_ia Tryd.underlying22 sz44 (hS.rdl 1 ha0 rfl) h105 hA rfl rfl rfl) rfl rfl, pu rfl rfl [(24, .pointer (some (ea A0 ((0 : Int).toNat * 5))))] (fun ac hA => y_fae (m := (0 : Int).toNat * 5) fa44_2 hA rfl rfl) rfl rfl, pu rfl rfl [(25, .pointer (some (ea A0 ((0 : Int).toNat * 5 + 2))))] (fun ac hA => y_ld Tryd.underlying2 (hc109 2 _ rfl) hA rfl rfl rfl) rfl rfl, pu rfl rfl [(0, .slice A0 n0 c0)] (fun ac hA => y_move hA rfl rfl) rfl rfl, pu rfl rfl [(27, .slice A0 n0 c0)] (fun ac hA => y_ia Tryd.underlying22 sz44 (hS.rdl 1 ha0 rfl) h105 hA rfl rfl rfl) rfl rfl, pu rfl rfl [(28, .pointer (some (ea A0 ((0 : Int).toNat * 5))))] (fun ac hA => y_fae (m := (0 : Int).toNat * 5) fa44_3 hA rfl rfl) rfl rfl, pu rfl rfl [(29, .pointer (some (ea A0 ((0 : Int).toNat * 5 + 3))))] (fun ac hA => y_ld Tryd.underlying9 (hc110 3 _ rfl) hA rfl rfl rfl) rfl rfl, pu rfl rfl [(0, .slice A0 n0 c0)] (fun ac hA => y_move hA rfl rfl) rfl rfl, pu rfl rfl [(31, .slice A0 n0 c0)] (fun ac hA => y_ia Tryd.underlying22 sz44 (hS.rdl 1 ha0 rfl) h105 hA rfl rfl rfl) rfl rfl, pu rfl rfl [(32, .pointer (some (ea A0 ((0 : Int).toNat * 5))))] (fun ac hA => y_fae (m := (0 : Int).toNat * 5) fa44_3 hA rfl rfl) rfl rfl, pu rfl rfl [(33, .pointer (some (ea A0 ((0 : Int).toNat * 5 + 3))))] (fun ac hA => y_ld Tryd.underlying9 (hc111 3 _ rfl) hA rfl rfl rfl) rfl rfl, pu rfl rfl [(9, .int .i64 (a0.length : Int)), (10, .int .i64 a1), (14, .int .u64 x104.f0), (18, .int .u64 x104.f0), (22, .int .i64 x104.f2), (26, .int .i64 x104.f2), (30, str x104.f3), (34, str x104.f3)] (fun ac hA => (r_build (ps := #[(0, .int .i64 (a0.length : Int)), (1, .int .i64 a1), (2, .int .u64 x104.f0), (3, .int .u64 x104.f0), (4, .int .i64 x104.f2), (5, .int .i64 x104.f2), (6, str x104.f3), (7, str x104.f3)]) rfl (mapev2 hA rfl) (fun w => by kernel_rfl) : RunV _ _ _ _ (.agg #[.int .i64 (a0.length : Int), .int .i64 a1, .int .u64 x104.f0, .int .u64 x104.f0, .int .i64 x104.f2, .int .i64 x104.f2, str x104.f3, str x104.f3]))) rfl rfl, trivial⟩ (by kernel_rfl) (by kernel_rfl) ⟨ef rfl [] (fun ac hA K hK => ?_) rfl rfl, trivial⟩
 refine z_alloc (cs := [.int .i64 0, .int .i64 0, .int .u64 0, .int .u64 0, .int .i64 0, .int .i64 0, str [], str []]) zr41 hA hS (fun g112 w hS => ?_) rfl rfl
 obtain ⟨cs, hV, hc113⟩ := el (hS.rdl 2 ha0 rfl) h105
 obtain rfl := hV
 obtain ⟨cs, hV, hc114⟩ := el (hS.rdl 2 ha0 rfl) h105
 obtain rfl := hV
 obtain ⟨cs, hV, hc115⟩ := el (hS.rdl 2 ha0 rfl) h105
 obtain rfl := hV
 obtain ⟨cs, hV, hc116⟩ := el (hS.rdl 2 ha0 rfl) h105
 obtain rfl := hV
 obtain ⟨cs, hV, hc117⟩ := el (hS.rdl 2 ha0 rfl) h105
 obtain rfl := hV
 obtain ⟨cs, hV, hc118⟩ := el (hS.rdl 2 ha0 rfl) h105
 obtain rfl := hV
 refine hK _ [] _ rfl ?_
 refine dEff [0, 1, 2, 3, 4, 5, 6, 7, 8, 9, 10, 11, 12, 13, 14, 15, 16, 17, 18, 19, 20, 21, 22, 23, 24, 25, 26, 27] [29] (by kernel_rfl) ⟨pu rfl rfl [(0, .slice A0 n0 c0)] (fun ac hA => y_move hA rfl rfl) rfl rfl, pu rfl rfl [(8, .slice A0 n0 c0)] (fun ac hA => y_len Tryd.underlying22 (hS.rdl 2 ha0 rfl).2.1 hA rfl rfl) rfl rfl, pu rfl rfl [(1, .int .i64 a1)] (fun ac hA => y_move hA rfl rfl) rfl rfl, pu rfl rfl [(0, .slice A0 n0 c0)] (fun ac hA => y_move hA rfl rfl) rfl rfl, pu rfl rfl [(11, .slice A0 n0 c0)] (fun ac hA => y_ia Tryd.underlying22 sz44 (hS.rdl 2 ha0 rfl) h105 hA rfl rfl rfl) rfl rfl, pu rfl rfl [(12, .pointer (some (ea A0 ((0 : Int).toNat * 5))))] (fun ac hA => y_fae (m := (0 : Int).toNat * 5) fa44_0 hA rfl rfl) rfl rfl, pu rfl rfl [(13, .pointer (some (ea A0 ((0 : Int).toNat * 5))))] (fun ac hA => y_ld Tryd.underlying31 (hc113 0 _ rfl) hA rfl rfl rfl) rfl rfl, pu rfl rfl [(0, .slice A0 n0 c0)] (fun ac hA => y_move hA rfl rfl) rfl rfl, pu rfl rfl [(15, .slice A0 n0 c0)] (fun ac hA => y_ia Tryd.underlying22 sz44 (hS.rdl 2 ha0 rfl) h105 hA rfl rfl rfl) rfl rfl, pu rfl rfl [(16, .pointer (some (ea A0 ((0 : Int).toNat * 5))))] (fun ac hA => y_fae (m := (0 : Int).toNat * 5) fa44_0 hA rfl rfl) rfl rfl, pu rfl rfl [(17, .pointer (some (ea A0 ((0 : Int).toNat * 5))))] (fun ac hA => y_ld Tryd.underlying31 (hc114 0 _ rfl) hA rfl rfl rfl) rfl rfl, pu rfl rfl [(0, .slice A0 n0 c0)] (fun ac hA => y_move hA rfl rfl) rfl rfl, pu rfl rfl [(19, .slice A0 n0 c0)] (fun ac hA => y_ia Tryd.underlying22 sz44 (hS.rdl 2 ha0 rfl) h105 hA rfl rfl rfl) rfl rfl, pu rfl rfl [(20, .pointer (some (ea A0 ((0 : Int).toNat * 5))))] (fun ac hA => y_fae (m := (0 : Int).toNat * 5) fa44_2 hA rfl rfl) rfl rfl, pu rfl rfl [(21, .pointer (some (ea A0 ((0 : Int).toNat * 5 + 2))))] (fun ac hA => y_ld Tryd.underlying2 (hc115 2 _ rfl) hA rfl rfl rfl) rfl rfl, pu rfl rfl [(0, .slice A0 n0 c0)] (fun ac hA => y_move hA rfl rfl) rfl rfl, pu rfl rfl [(23, .slice A0 n0 c0)] (fun ac hA => y_ia Tryd.underlying22 sz44 (hS.rdl 2 ha0 rfl) h105 hA rfl rfl rfl) rfl rfl, pu rfl rfl [(24, .pointer (some (ea A0 ((0 : Int).toNat * 5))))] (fun ac hA => y_fae (m := (0 : Int).toNat * 5) fa44_2 hA rfl rfl) rfl rfl, pu rfl rfl [(25, .pointer (some (ea A0 ((0 : Int).toNat * 5 + 2))))] (fun ac hA => y_ld Tryd.underlying2 (hc116 2 _ rfl) hA rfl rfl rfl) rfl rfl, pu rfl rfl [(0, .slice A0 n0 c0)] (fun ac hA => y_move hA rfl rfl) rfl rfl, pu rfl rfl [(27, .slice A0 n0 c0)] (fun ac hA => y_ia Tryd.underlying22 sz44 (hS.rdl 2 ha0 rfl) h105 hA rfl rfl rfl) rfl rfl, pu rfl rfl [(28, .pointer (some (ea A0 ((0 : Int).toNat * 5))))] (fun ac hA => y_fae (m := (0 : Int).toNat * 5) fa44_3 hA rfl rfl) rfl rfl, pu rfl rfl [(29, .pointer (some (ea A0 ((0 : Int).toNat * 5 + 3))))] (fun ac hA => y_ld Tryd.underlying9 (hc117 3 _ rfl) hA rfl rfl rfl) rfl rfl, pu rfl rfl [(0, .slice A0 n0 c0)] (fun ac hA => y_move hA rfl rfl) rfl rfl, pu rfl rfl [(31, .slice A0 n0 c0)] (fun ac hA => y_ia Tryd.underlying22 sz44 (hS.rdl 2 ha0 rfl) h105 hA rfl rfl rfl) rfl rfl, pu rfl rfl [(32, .pointer (some (ea A0 ((0 : Int).toNat * 5))))] (fun ac hA => y_fae (m := (0 : Int).toNat * 5) fa44_3 hA rfl rfl) rfl rfl, pu rfl rfl [(33, .pointer (some (ea A0 ((0 : Int).toNat * 5 + 3))))] (fun ac hA => y_ld Tryd.underlying9 (hc118 3 _ rfl) hA rfl rfl rfl) rfl rfl, pu rfl rfl [(9, .int .i64 (a0.length : Int)), (10, .int .i64 a1), (14, .int .u64 x104.f0), (18, .int .u64 x104.f0), (22, .int .i64 x104.f2), (26, .int .i64 x104.f2), (30, str x104.f3), (34, str x104.f3)] (fun ac hA => (r_build (ps := #[(0, .int .i64 (a0.length : Int)), (1, .int .i64 a1), (2, .int .u64 x104.f0), (3, .int .u64 x104.f0), (4, .int .i64 x104.f2), (5, .int .i64 x104.f2), (6, str x104.f3), (7, str x104.f3)]) rfl (mapev2 hA rfl) (fun w => by kernel_rfl) : RunV _ _ _ _ (.agg #[.int .i64 (a0.length : Int), .int .i64 a1, .int .u64 x104.f0, .int .u64 x104.f0, .int .i64 x104.f2, .int .i64 x104.f2, str x104.f3, str x104.f3]))) rfl rfl, trivial⟩ (by kernel_rfl) (by kernel_rfl) ⟨ef rfl [(5, .pointer (some ⟨g112, 0, none⟩)), (35, .agg #[.int .i64 (a0.length : Int), .int .i64 a1, .int .u64 x104.f0, .int .u64 x104.f0, .int .i64 x104.f2, .int .i64 x104.f2, str x104.f3, str x104.f3])] (fun ac hA K hK => ?_) rfl rfl, trivial⟩
 refine z_stb 0 sz41 hA hS rfl (fun  w hS => ?_) rfl rfl rfl rfl rfl rfl
 refine hK _ [] _ rfl ?_
 refine dEnd [] (by kernel_rfl) trivial ⟨by kernel_rfl, by kernel_rfl⟩ [(0, .slice A0 n0 c0), (4, .pointer (some ⟨g102, 0, none⟩)), (5, .pointer (some ⟨g112, 0, none⟩))] rfl (fun ac hA => ?_)
 refine hK103 _ _ ?_
 refine wp_seq_k fun K119 hK119 => ?_
 refine ws fun K269 hK269 => ?_
 refine x_m hA rfl fun ac hA => ?_
 refine x_len Tryd.underlying22 (hS.rdl 2 ha0 rfl).2.1 hA (fun ac hA => ?_) rfl rfl rfl rfl rfl
 refine x_m hA rfl fun ac hA => ?_
 refine wn (hK269 _ _ ?_)
 refine wp_block_k fun Kx270 hKx270 => ?_
 have hb1 : ∀ (x341 : Int) (x342 : Int) (x343 : Int) (x344 : Int) (s345 : (List UInt8)) (s346 : (List UInt8)), segment_chunk_b1 a0 a1 x341 x342 x343 x344 s345 s346 = some y → ∀ (ac : Act) (w : World), FR 80 [] ac [(4, .pointer (some ⟨g102, 0, none⟩)), (5, .pointer (some ⟨g112, 0, none⟩))] → SH r (blk g102 41 [.int .i64 0, .int .i64 0, .int .u64 0, .int .u64 0, .int .i64 0, .int .i64 0, str [], str []] :: blk g112 41 [.int .i64 (a0.length : Int), .int .i64 a1, .int .u64 x341, .int .u64 x342, .int .i64 x343, .int .i64 x344, str s345, str s346] :: L) w → Kx270 ac w := by
  intro x341 x342 x343 x344 s345 s346 hF ac w hA hS
  unfold segment_chunk_b1 at hF
  refine hKx270 _ _ ?_
  refine hK119 _ _ ?_
  refine ws fun K347 hK347 => ?_
  refine x_lda (ad := ⟨g112, 0, none⟩) (cs := [.int .i64 (a0.length : Int), .int .i64 a1, .int .u64 x341, .int .u64 x342, .int .i64 x343, .int .i64 x344, str s345, str s346]) Tryd.underlying41 sz41 (fun j u h => by rw [add_mk, Nat.zero_add]; exact hS.cell 1 rfl j u h) hA (fun ac hA => ?_) rfl rfl rfl rfl rfl rfl
  refine x_stb 0 sz41 hA hS rfl (fun  ac w hS hA => ?_) rfl rfl rfl rfl rfl rfl rfl rfl
  refine wn (hK347 _ _ ?_)
  refine wp_ret ?_
  have hS0 := hS
  replace hS := hS.drop 0
  replace hS := hS.drop 0
  cases hF
  refine hQ _ _ ?_
  refine lvc1 (cs := [.int .i64 (a0.length : Int), .int .i64 a1, .int .u64 x341, .int .u64 x342, .int .i64 x343, .int .i64 x344, str s345, str s346]) Tryd.results25 Tryd.underlying41 sz41 hS0 0 rfl hA rfl rfl ?_
  exact ⟨rfl, hS⟩
 obtain ⟨t402, hl402, hF⟩ := bnd hF
 have hx402_0 : ∀ (x397 : Int) (x398 : Int) (x399 : Int) (x400 : Int) (s401 : (List UInt8)) (s402 : (List UInt8)), (x397, x398, x399, x400, s401, s402) = t402 → ∀ (ac : Act) (w : World), FR 80 [] ac [(4, .pointer (some ⟨g102, 0, none⟩)), (5, .pointer (some ⟨g112, 0, none⟩))] → SH r (blk g102 41 [.int .i64 0, .int .i64 0, .int .u64 0, .int .u64 0, .int .i64 0, .int .i64 0, str [], str []] :: blk g112 41 [.int .i64 (a0.length : Int), .int .i64 a1, .int .u64 x397, .int .u64 x398, .int .i64 x399, .int .i64 x400, str s401, str s402] :: L) w → Kx270 ac w := by
  intro x397 x398 x399 x400 s401 s402 ht ac w hA hS
  subst ht
  replace hF : segment_chunk_x1_0 a0 a1 x397 x398 x399 x400 s401 s402 = some y := hF
  unfold segment_chunk_x1_0 at hF
  exact hb1 x397 x398 x399 x400 s401 s402 hF ac w (hA.sub _ rfl) hS
 replace hS := hS.pk 1
 refine wp_loop_fn hl402 (fun s ac w => FR 80 [] ac [(4, .pointer (some ⟨g102, 0, none⟩)), (5, .pointer (some ⟨g112, 0, none⟩)), (36, .slice A0 n0 c0), (37, .int .i64 (a0.length : Int)), (38, .int .i64 s.2.2.2.2.2.2)] ∧ SH r (blk g102 41 [.int .i64 0, .int .i64 0, .int .u64 0, .int .u64 0, .int .i64 0, .int .i64 0, str [], str []] :: blk g112 41 [.int .i64 (a0.length : Int), .int .i64 a1, .int .u64 s.1, .int .u64 s.2.1, .int .i64 s.2.2.1, .int .i64 s.2.2.2.1, str s.2.2.2.2.1, str s.2.2.2.2.2.1] :: L) w) ⟨hA.sub _ rfl, hS⟩ ?_
 intro N402 s402 o402 hF N402_ T402_ ac w hLab
 obtain ⟨x369, x370, x371, x372, s373, s374, x375⟩ := s402
 replace hF : segment_chunk_l1 a0 x369 x370 x371 x372 s373 s374 x375 = some o402 := hF
 unfold segment_chunk_l1 at hF
 try dsimp only at hLab
 obtain ⟨hA, hS⟩ := hLab
 refine ws fun K404 hK404 => ?_
 refine x_v hA (r_ltI rfl (hA.ev rfl) (hA.ev rfl)) rfl fun ac hA => ?_
 refine wn (hK404 _ _ ?_)
 refine wp_seq_k fun K405 hK405 => ?_
 refine c_if hA rfl (fun hb406 => ?_) fun hb406 => ?_
 ·replace hF := ift hb406 hF
  refine wp_skip ?_
  refine hK405 _ _ ?_
  refine wp_seq_k fun K407 hK407 => ?_
  refine wp_block_k fun Kx408 hKx408 => ?_
  refine ws fun K409 hK409 => ?_
  obtain ⟨x410, h411, hF⟩ := bnd hF
  refine x_ia Tryd.underlying22 sz44 (hS.rdl 2 ha0 rfl) h411 hA (fun ac hA => ?_) rfl rfl rfl rfl rfl rfl
  obtain ⟨cs, hV, hc412⟩ := el (hS.rdl 2 ha0 rfl) h411
  obtain rfl := hV
  refine x_lda (cs := [.int .u64 x410.f0, .int .i64 x410.f1, .int .i64 x410.f2, str x410.f3, .float .f64 x410.f4]) Tryd.underlying44 sz44 (fun j u h => by rw [ea_add]; exact hc412 _ _ h) hA (fun ac hA => ?_) rfl rfl rfl rfl rfl rfl
  refine x_alloc (cs := [.int .u64 0, .int .i64 0, .int .i64 0, str [], .float .f64 0]) zr44 hA hS (fun g413 ac w hS hA => ?_) rfl rfl rfl rfl rfl
  refine x_stb 0 sz44 hA hS rfl (fun  ac w hS hA => ?_) rfl rfl rfl rfl rfl rfl rfl rfl
  refine wn (hK409 _ _ ?_)
  refine wp_seq_k fun K414 hK414 => ?_
  refine wp_draw [0, 1, 0, 4, 15, 0, 32, 0, 128, 480, 127, 1151, 4095, 8191] [11, 13] rfl hA hS (by kernel_rfl) (by kernel_rfl) (by kernel_rfl) (by kernel_rfl) fun w hS => ?_
  refine ⟨[(0, .pointer (some ⟨g112, 2, none⟩)), (1, .int .u64 x369), (2, .pointer (some ⟨g413, 0, none⟩)), (3, .int .u64 x410.f0), (4, .int .u64 (if x410.f0 < x369 then x410.f0 else x369)), (5, .pointer (some ⟨g112, 3, none⟩)), (6, .int .u64 x370), (7, .pointer (some ⟨g413, 0, none⟩)), (8, .int .u64 x410.f0), (9, .int .u64 (if x370 < x410.f0 then x410.f0 else x370)), (10, .pointer (some ⟨g112, 2, none⟩))], ?_⟩
  refine dEff [0, 1, 2, 3, 4, 5, 6, 7, 8, 9, 10] [11] (by kernel_rfl) ⟨pu rfl rfl [(5, .pointer (some ⟨g112, 0, none⟩))] (fun ac hA => y_fab fa41_2 hA rfl rfl) rfl rfl, pu rfl rfl [(42, .pointer (some ⟨g112, 2, none⟩))] (fun ac hA => y_ld Tryd.underlying31 (hS.cell 2 rfl 2 _ rfl) hA rfl rfl rfl) rfl rfl, pu rfl rfl [(7, .pointer (some ⟨g413, 0, none⟩))] (fun ac hA => y_fab fa44_0 hA rfl rfl) rfl rfl, pu rfl rfl [(44, .pointer (some ⟨g413, 0, none⟩))] (fun ac hA => y_ld Tryd.underlying31 (hS.cell 0 rfl 0 _ rfl) hA rfl rfl rfl) rfl rfl, pu rfl rfl [(43, .int .u64 x369), (45, .int .u64 x410.f0)] (fun ac hA => r_minI rfl (hA.ev rfl) (hA.ev rfl)) rfl rfl, pu rfl rfl [(5, .pointer (some ⟨g112, 0, none⟩))] (fun ac hA => y_fab fa41_3 hA rfl rfl) rfl rfl, pu rfl rfl [(47, .pointer (some ⟨g112, 3, none⟩))] (fun ac hA => y_ld Tryd.underlying31 (hS.cell 2 rfl 3 _ rfl) hA rfl rfl rfl) rfl rfl, pu rfl rfl [(7, .pointer (some ⟨g413, 0, none⟩))] (fun ac hA => y_fab fa44_0 hA rfl rfl) rfl rfl, pu rfl rfl [(49, .pointer (some ⟨g413, 0, none⟩))] (fun ac hA => y_ld Tryd.underlying31 (hS.cell 0 rfl 0 _ rfl) hA rfl rfl rfl) rfl rfl, pu rfl rfl [(48, .int .u64 x370), (50, .int .u64 x410.f0)] (fun ac hA => r_maxI rfl (hA.ev rfl) (hA.ev rfl)) rfl rfl, pu rfl rfl [(5, .pointer (some ⟨g112, 0, none⟩))] (fun ac hA => y_fab fa41_2 hA rfl rfl) rfl rfl, trivial⟩ (by kernel_rfl) (by kernel_rfl) ⟨ef rfl [(46, .int .u64 (if x410.f0 < x369 then x410.f0 else x369)), (52, .pointer (some ⟨g112, 2, none⟩))] (fun ac hA K hK => ?_) rfl rfl, trivial⟩
  refine z_stb 2 sz31 hA hS rfl (fun  w hS => ?_) rfl rfl rfl rfl rfl rfl
  refine hK _ [(12, .pointer (some ⟨g112, 3, none⟩))] _ rfl ?_
  refine dEff [7, 8, 9, 12] [13] (by kernel_rfl) ⟨pu rfl rfl [(7, .pointer (some ⟨g413, 0, none⟩))] (fun ac hA => y_fab fa44_0 hA rfl rfl) rfl rfl, pu rfl rfl [(49, .pointer (some ⟨g413, 0, none⟩))] (fun ac hA => y_ld Tryd.underlying31 (hS.cell 1 rfl 0 _ rfl) hA rfl rfl rfl) rfl rfl, pu rfl rfl [(48, .int .u64 x370), (50, .int .u64 x410.f0)] (fun ac hA => r_maxI rfl (hA.ev rfl) (hA.ev rfl)) rfl rfl, pu rfl rfl [(5, .pointer (some ⟨g112, 0, none⟩))] (fun ac hA => y_fab fa41_3 hA rfl rfl) rfl rfl, trivial⟩ (by kernel_rfl) (by kernel_rfl) ⟨ef rfl [(51, .int .u64 (if x370 < x410.f0 then x410.f0 else x370)), (53, .pointer (some ⟨g112, 3, none⟩))] (fun ac hA K hK => ?_) rfl rfl, trivial⟩
  refine z_stb 0 sz31 hA hS rfl (fun  w hS => ?_) rfl rfl rfl rfl rfl rfl
  refine hK _ [] _ rfl ?_
  refine dEnd [] (by kernel_rfl) trivial ⟨by kernel_rfl, by kernel_rfl⟩ [(4, .pointer (some ⟨g102, 0, none⟩)), (5, .pointer (some ⟨g112, 0, none⟩)), (7, .pointer (some ⟨g413, 0, none⟩)), (36, .slice A0 n0 c0), (37, .int .i64 (a0.length : Int)), (38, .int .i64 x375)] rfl (fun ac hA => ?_)
  refine hK414 _ _ ?_
  refine wp_seq_k fun K415 hK415 => ?_
  refine wp_draw [0, 1, 0, 4, 15, 0, 32, 0, 128, 480, 127, 1151, 4095, 8191] [11, 13] rfl hA hS (by kernel_rfl) (by kernel_rfl) (by kernel_rfl) (by kernel_rfl) fun w hS => ?_
  refine ⟨[(0, .pointer (some ⟨g112, 4, none⟩)), (1, .int .i64 x371), (2, .pointer (some ⟨g413, 2, none⟩)), (3, .int .i64 x410.f2), (4, .int .i64 (if x410.f2 < x371 then x410.f2 else x371)), (5, .pointer (some ⟨g112, 5, none⟩)), (6, .int .i64 x372), (7, .pointer (some ⟨g413, 2, none⟩)), (8, .int .i64 x410.f2), (9, .int .i64 (if x372 < x410.f2 then x410.f2 else x372)), (10, .pointer (some ⟨g112, 4, none⟩))], ?_⟩
  refine dEff [0, 1, 2, 3, 4, 5, 6, 7, 8, 9, 10] [11] (by kernel_rfl) ⟨pu rfl rfl [(5, .pointer (some ⟨g112, 0, none⟩))] (fun ac hA => y_fab fa41_4 hA rfl rfl) rfl rfl, pu rfl rfl [(54, .pointer (some ⟨g112, 4, none⟩))] (fun ac hA => y_ld Tryd.underlying2 (hS.cell 0 rfl 4 _ rfl) hA rfl rfl rfl) rfl rfl, pu rfl rfl [(7, .pointer (some ⟨g413, 0, none⟩))] (fun ac hA => y_fab fa44_2 hA rfl rfl) rfl rfl, pu rfl rfl [(56, .pointer (some ⟨g413, 2, none⟩))] (fun ac hA => y_ld Tryd.underlying2 (hS.cell 1 rfl 2 _ rfl) hA rfl rfl rfl) rfl rfl, pu rfl rfl [(55, .int .i64 x371), (57, .int .i64 x410.f2)] (fun ac hA => r_minI rfl (hA.ev rfl) (hA.ev rfl)) rfl rfl, pu rfl rfl [(5, .pointer (some ⟨g112, 0, none⟩))] (fun ac hA => y_fab fa41_5 hA rfl rfl) rfl rfl, pu rfl rfl [(59, .pointer (some ⟨g112, 5, none⟩))] (fun ac hA => y_ld Tryd.underlying2 (hS.cell 0 rfl 5 _ rfl) hA rfl rfl rfl) rfl rfl, pu rfl rfl [(7, .pointer (some ⟨g413, 0, none⟩))] (fun ac hA => y_fab fa44_2 hA rfl rfl) rfl rfl, pu rfl rfl [(61, .pointer (some ⟨g413, 2, none⟩))] (fun ac hA => y_ld Tryd.underlying2 (hS.cell 1 rfl 2 _ rfl) hA rfl rfl rfl) rfl rfl, pu rfl rfl [(60, .int .i64 x372), (62, .int .i64 x410.f2)] (fun ac hA => r_maxI rfl (hA.ev rfl) (hA.ev rfl)) rfl rfl, pu rfl rfl [(5, .pointer (some ⟨g112, 0, none⟩))] (fun ac hA => y_fab fa41_4 hA rfl rfl) rfl rfl, trivial⟩ (by kernel_rfl) (by kernel_rfl) ⟨ef rfl [(58, .int .i64 (if x410.f2 < x371 then x410.f2 else x371)), (64, .pointer (some ⟨g112, 4, none⟩))] (fun ac hA K hK => ?_) rfl rfl, trivial⟩
  refine z_stb 0 sz2 hA hS rfl (fun  w hS => ?_) rfl rfl rfl rfl rfl rfl
  refine hK _ [(12, .pointer (some ⟨g112, 5, none⟩))] _ rfl ?_
  refine dEff [7, 8, 9, 12] [13] (by kernel_rfl) ⟨pu rfl rfl [(7, .pointer (some ⟨g413, 0, none⟩))] (fun ac hA => y_fab fa44_2 hA rfl rfl) rfl rfl, pu rfl rfl [(61, .pointer (some ⟨g413, 2, none⟩))] (fun ac hA => y_ld Tryd.underlying2 (hS.cell 1 rfl 2 _ rfl) hA rfl rfl rfl) rfl rfl, pu rfl rfl [(60, .int .i64 x372), (62, .int .i64 x410.f2)] (fun ac hA => r_maxI rfl (hA.ev rfl) (hA.ev rfl)) rfl rfl, pu rfl rfl [(5, .pointer (some ⟨g112, 0, none⟩))] (fun ac hA => y_fab fa41_5 hA rfl rfl) rfl rfl, trivial⟩ (by kernel_rfl) (by kernel_rfl) ⟨ef rfl [(63, .int .i64 (if x372 < x410.f2 then x410.f2 else x372)), (65, .pointer (some ⟨g112, 5, none⟩))] (fun ac hA K hK => ?_) rfl rfl, trivial⟩
  refine z_stb 0 sz2 hA hS rfl (fun  w hS => ?_) rfl rfl rfl rfl rfl rfl
  refine hK _ [] _ rfl ?_
  refine dEnd [] (by kernel_rfl) trivial ⟨by kernel_rfl, by kernel_rfl⟩ [(4, .pointer (some ⟨g102, 0, none⟩)), (5, .pointer (some ⟨g112, 0, none⟩)), (7, .pointer (some ⟨g413, 0, none⟩)), (36, .slice A0 n0 c0), (37, .int .i64 (a0.length : Int)), (38, .int .i64 x375)] rfl (fun ac hA => ?_)
  refine hK415 _ _ ?_
  refine wp_draw [0, 1, 0, 4, 15, 0, 32, 0, 128, 480, 127, 1151, 4095, 8191] [11, 13] rfl hA hS (by kernel_rfl) (by kernel_rfl) (by kernel_rfl) (by kernel_rfl) fun w hS => ?_
  refine ⟨[(0, .pointer (some ⟨g112, 6, none⟩)), (1, str s373), (2, .pointer (some ⟨g413, 3, none⟩)), (3, str x410.f3), (4, str (if (Op.bytesLess s373 x410.f3 || s373 == x410.f3) = true then s373 else x410.f3)), (5, .pointer (some ⟨g112, 7, none⟩)), (6, str s374), (7, .pointer (some ⟨g413, 3, none⟩)), (8, str x410.f3), (9, str (if Op.bytesLess s374 x410.f3 = true then x410.f3 else s374)), (10, .pointer (some ⟨g112, 6, none⟩))], ?_⟩
  refine dEff [0, 1, 2, 3, 4, 5, 6, 7, 8, 9, 10] [11] (by kernel_rfl) ⟨pu rfl rfl [(5, .pointer (some ⟨g112, 0, none⟩))] (fun ac hA => y_fab fa41_6 hA rfl rfl) rfl rfl, pu rfl rfl [(66, .pointer (some ⟨g112, 6, none⟩))] (fun ac hA => y_ld Tryd.underlying9 (hS.cell 0 rfl 6 _ rfl) hA rfl rfl rfl) rfl rfl, pu rfl rfl [(7, .pointer (some ⟨g413, 0, none⟩))] (fun ac hA => y_fab fa44_3 hA rfl rfl) rfl rfl, pu rfl rfl [(68, .pointer (some ⟨g413, 3, none⟩))] (fun ac hA => y_ld Tryd.underlying9 (hS.cell 1 rfl 3 _ rfl) hA rfl rfl rfl) rfl rfl, pu rfl rfl [(67, str s373), (69, str x410.f3)] (fun ac hA => r_minS rfl (hA.ev rfl) (hA.ev rfl)) rfl rfl, pu rfl rfl [(5, .pointer (some ⟨g112, 0, none⟩))] (fun ac hA => y_fab fa41_7 hA rfl rfl) rfl rfl, pu rfl rfl [(71, .pointer (some ⟨g112, 7, none⟩))] (fun ac hA => y_ld Tryd.underlying9 (hS.cell 0 rfl 7 _ rfl) hA rfl rfl rfl) rfl rfl, pu rfl rfl [(7, .pointer (some ⟨g413, 0, none⟩))] (fun ac hA => y_fab fa44_3 hA rfl rfl) rfl rfl, pu rfl rfl [(73, .pointer (some ⟨g413, 3, none⟩))] (fun ac hA => y_ld Tryd.underlying9 (hS.cell 1 rfl 3 _ rfl) hA rfl rfl rfl) rfl rfl, pu rfl rfl [(72, str s374), (74, str x410.f3)] (fun ac hA => r_maxS rfl (hA.ev rfl) (hA.ev rfl)) rfl rfl, pu rfl rfl [(5, .pointer (some ⟨g112, 0, none⟩))] (fun ac hA => y_fab fa41_6 hA rfl rfl) rfl rfl, trivial⟩ (by kernel_rfl) (by kernel_rfl) ⟨ef rfl [(70, str (if (Op.bytesLess s373 x410.f3 || s373 == x410.f3) = true then s373 else x410.f3)), (76, .pointer (some ⟨g112, 6, none⟩))] (fun ac hA K hK => ?_) rfl rfl, trivial⟩
  refine z_stb 0 sz9 hA hS rfl (fun  w hS => ?_) rfl rfl rfl rfl rfl rfl
  refine hK _ [(12, .pointer (some ⟨g112, 7, none⟩))] _ rfl ?_
  refine dEff [7, 8, 9, 12] [13] (by kernel_rfl) ⟨pu rfl rfl [(7, .pointer (some ⟨g413, 0, none⟩))] (fun ac hA => y_fab fa44_3 hA rfl rfl) rfl rfl, pu rfl rfl [(73, .pointer (some ⟨g413, 3, none⟩))] (fun ac hA => y_ld Tryd.underlying9 (hS.cell 1 rfl 3 _ rfl) hA rfl rfl rfl) rfl rfl, pu rfl rfl [(72, str s374), (74, str x410.f3)] (fun ac hA => r_maxS rfl (hA.ev rfl) (hA.ev rfl)) rfl rfl, pu rfl rfl [(5, .pointer (some ⟨g112, 0, none⟩))] (fun ac hA => y_fab fa41_7 hA rfl rfl) rfl rfl, trivial⟩ (by kernel_rfl) (by kernel_rfl) ⟨ef rfl [(75, str (if Op.bytesLess s374 x410.f3 = true then x410.f3 else s374)), (77, .pointer (some ⟨g112, 7, none⟩))] (fun ac hA K hK => ?_) rfl rfl, trivial⟩
  refine z_stb 0 sz9 hA hS rfl (fun  w hS => ?_) rfl rfl rfl rfl rfl rfl
  refine hK _ [] _ rfl ?_
  refine dEnd [] (by kernel_rfl) trivial ⟨by kernel_rfl, by kernel_rfl⟩ [(4, .pointer (some ⟨g102, 0, none⟩)), (5, .pointer (some ⟨g112, 0, none⟩)), (36, .slice A0 n0 c0), (37, .int .i64 (a0.length : Int)), (38, .int .i64 x375)] rfl (fun ac hA => ?_)
  refine hKx408 _ _ ?_
  refine hK407 _ _ ?_
  refine wp_reg ?_
  obtain ⟨x416, h417, hF⟩ := ltt_ hF
  refine x_v (v := .int .i64 x416) hA (rv_i h417 (r_add rfl (hA.ev rfl) (hA.ev rfl))) rfl fun ac hA => ?_
  refine x_m hA rfl fun ac hA => ?_
  refine wpList_nil ?_
  replace hS := hS.drop 1
  replace hS := hS.pk 1
  cases hF
  exact ⟨_, N402_ _ rfl, hA.sub _ rfl, hS⟩
 replace hF := iff' hb406 hF
 refine wp_exit ?_
 cases hF
 exact hx402_0 x369 x370 x371 x372 s373 s374 (T402_ _ rfl) ac w (hA.sub _ rfl) hS
end Go.Proofs.YteodeedejjcmgaaDoor.M
namespace Go.Proofs.YteodeedejjcmgaaDoor.M
open Go Go.RowKit Go.Proofs.YteodeedejjcmgaaDoor.E
set_option linter.unusedVariables false
set_option linter.unusedSimpArgs false
set_option maxRecDepth 100000 in
set_option maxHeartbeats 2000000 in
theorem F_slices_Chunk {r w : World} {L : List HP} {A : Option Addr} {n c : Nat} {k : Int} (hk : 1 ≤ k) (hS : SH r L w) :
    Ret Tryd.prog 24 #[.slice A n c, .int .i64 k] w fun v w' => ∃ g1 g2, v = .func (.func 44) #[] #[.pointer (some ⟨g1, 0, none⟩), .pointer (some ⟨g2, 0, none⟩)] ∧ SH r (blk g1 22 [.slice A n c] :: blk g2 3 [.int .i64 k] :: L) w' := by
  refine enter Tryd.func24 rfl Tryd.ntmps24 [(0, .slice A n c), (1, .int .i64 k)] rfl (by simp) ?_
  intro ac hA Qf hQ hQn
  refine wp_seq_k fun K1 hK1 => ?_
  refine wp_reg ?_
  refine x_box hA hS (fun g1 ac w hS hA => ?_) rfl rfl rfl rfl rfl rfl
  refine x_box hA hS (fun g2 ac w hS hA => ?_) rfl rfl rfl rfl rfl rfl
  refine x_assign hA (fun ac hA => ?_) rfl rfl rfl rfl rfl
  refine wpList_nil ?_
  refine hK1 _ _ ?_
  refine wp_seq_k fun K2 hK2 => ?_
  refine wp_seq_k fun K3 hK3 => ?_
  refine wp_reg ?_
  refine x_ld Tryd.underlying3 (hS.cell 0 rfl 0 _ rfl) hA (fun ac hA => ?_) rfl rfl rfl rfl rfl rfl
  refine x_val hA (r_ltI rfl (hA.ev rfl) (hA.ev rfl)) (fun ac hA => ?_) rfl rfl rfl
  refine wpList_nil ?_
  refine hK3 _ _ ?_
  refine c_f (by simp; omega) hA ?_ rfl
  refine wp_skip ?_
  refine hK2 _ _ ?_
  refine wp_seq_k fun K4 hK4 => ?_
  refine wp_reg ?_
  refine x_val hA (r_makeFunc rfl (mapev (vals := #[]) hA rfl) (mapev (vals := #[.pointer (some ⟨g1, 0, none⟩), .pointer (some ⟨g2, 0, none⟩)]) hA rfl)) (fun ac hA => ?_) rfl rfl rfl
  refine x_assign hA (fun ac hA => ?_) rfl rfl rfl rfl rfl
  refine wpList_nil ?_
  refine hK4 _ _ ?_
  refine wp_ret ?_
  refine hQ _ _ ?_
  refine lv Tryd.results24 hA rfl ?_
  exact ⟨g1, g2, rfl, hS.pk 1⟩
theorem szc : (Tryd.prog.info? 44).map (·.size) = some 5 := by kernel_rfl
theorem wr64 {i : Int} (h : -9223372036854775808 ≤ i ∧ i ≤ 9223372036854775807) : IntKind.i64.wrap i = i := by rw [IntKind.wrap_i64]; omega
theorem pcv_cut {A : Option Addr} {sz q m k : Nat} (hq : 1 ≤ q) (h : k * q < m) :
    Value.slice (if (k * q + min q (m - k * q)) = k * q then A else A.map (·.add (k * q * sz))) (k * q + min q (m - k * q) - k * q) (k * q + min q (m - k * q) - k * q) = pcv A sz q m k := by
  rw [if_neg (by omega), Nat.add_sub_cancel_left]
  rfl
set_option maxRecDepth 100000 in
set_option maxHeartbeats 4000000 in
theorem chunk_hands : Hands Tryd.prog 44 5 := by
  intro l b1 b2 A m c q J hq1 hq2 hmc hc hmx hAs hJ hY w h0
  refine CallsIn.mono (R := fun e w' => ∃ v, e = .returned v ∧ J ((m + q - 1) / q) w') (callsIn_wide.2 ?_) fun e w' ⟨v, he, h⟩ => ⟨⟨v, he⟩, h⟩
  refine enter Tryd.func44 rfl Tryd.ntmps44 [(0, .func (.yield l) #[] #[]), (1, .pointer (some ⟨b1, 0, none⟩)), (2, .pointer (some ⟨b2, 0, none⟩))] rfl (by simp) ?_
  intro ac hA Qf hQ hQn
  refine wp_seq_k fun K1 hK1 => ?_
  refine wp_reg ?_
  refine x_assign hA (fun ac hA => ?_) rfl rfl rfl rfl rfl
  refine wpList_nil ?_
  refine hK1 _ _ ?_
  refine wp_block_k fun Kx hKx => ?_
  refine wp_loop (fun a w => ∃ k : Nat, FR 31 [] a [(4, .int .i64 (k * q : Nat)), (0, .func (.yield l) #[] #[]), (1, .pointer (some ⟨b1, 0, none⟩)), (2, .pointer (some ⟨b2, 0, none⟩))] ∧ J k w ∧ k ≤ (m + q - 1) / q)
    (fun a w => match a.tmps.getD 4 undef with | .int _ i => (m + q) - i.toNat | _ => 0) ⟨0, by simpa using hA, h0, Nat.zero_le _⟩ ?_
  rintro a w ⟨k, hA, hJk, hkN⟩
  have h4 : a.tmps.getD 4 undef = .int .i64 (k * q : Nat) := hA.ev (x := .tmp 4) rfl
  obtain ⟨hc1, hc2, hdr⟩ := hJ k w hJk
  refine wp_seq_k fun K2 hK2 => ?_
  refine wp_seq_k fun K3 hK3 => ?_
  refine wp_reg ?_
  refine x_move hA (fun ac hA => ?_) rfl rfl rfl rfl rfl
  refine x_ld Tryd.underlying22 hc1 hA (fun ac hA => ?_) rfl rfl rfl rfl rfl rfl
  refine x_val hA (r_len Tryd.underlying22 rfl (hA.ev rfl)) (fun ac hA => ?_) rfl rfl rfl
  refine x_val hA (r_ltI rfl (hA.ev rfl) (hA.ev rfl)) (fun ac hA => ?_) rfl rfl rfl
  refine wpList_nil ?_
  refine hK3 _ _ ?_
  refine c_if hA rfl (fun hb => ?_) fun hb => ?_
  · have hlt : k * q < m := by have := of_decide_eq_true hb; omega
    have hkq : k * q ≤ 4611686018427387904 := by omega
    have hkN' := (pcs_count hq1).1 hlt
    refine wp_skip ?_
    refine hK2 _ _ ?_
    refine wp_seq_k fun K4 hK4 => ?_
    refine wp_block_k fun Kb hKb => ?_
    refine wp_seq_k fun K5 hK5 => ?_
    refine wp_region_any rfl (draw_w0 [0, 0, 0, 6, 14, 31, 63] [] hA (by kernel_rfl) (by kernel_rfl) (by kernel_rfl) (by kernel_rfl) ?_)
    obtain ⟨hd1, hd2, hdd⟩ := hJ k _ hdr
    refine ⟨[(0, .int .i64 (q : Nat)), (1, .slice A m c), (2, .int .i64 (k * q : Nat)), (3, .slice (if c = ((k * q : Nat) : Int).toNat then A else A.map (·.add (((k * q : Nat) : Int).toNat * 5))) (m - ((k * q : Nat) : Int).toNat) (c - ((k * q : Nat) : Int).toNat)), (4, .int .i64 ((m - ((k * q : Nat) : Int).toNat : Nat) : Int)), (5, .int .i64 (if ((m - ((k * q : Nat) : Int).toNat : Nat) : Int) < ((q : Nat) : Int) then ((m - ((k * q : Nat) : Int).toNat : Nat) : Int) else ((q : Nat) : Int))), (6, .int .i64 (if ((m - ((k * q : Nat) : Int).toNat : Nat) : Int) < ((q : Nat) : Int) then ((m - ((k * q : Nat) : Int).toNat : Nat) : Int) else ((q : Nat) : Int)))], ?_⟩
    refine dEnd [0, 1, 2, 3, 4, 5, 6] (by kernel_rfl) ⟨?_, ?_, ?_, ?_, ?_, ?_, ?_, trivial⟩ ⟨by kernel_rfl, by kernel_rfl⟩ [(5, .int .i64 (min q (m - k * q) : Nat)), (4, .int .i64 (k * q : Nat)), (0, .func (.yield l) #[] #[]), (1, .pointer (some ⟨b1, 0, none⟩)), (2, .pointer (some ⟨b2, 0, none⟩))] ?_ (fun ac hA => ?_)
    · exact pu rfl rfl [(2, .pointer (some ⟨b2, 0, none⟩))] (fun ac hA => y_ld Tryd.underlying3 hd2 hA rfl rfl rfl) rfl rfl
    · exact pu rfl rfl [(1, .pointer (some ⟨b1, 0, none⟩))] (fun ac hA => y_ld Tryd.underlying22 hd1 hA rfl rfl rfl) rfl rfl
    · exact pu rfl rfl [(4, .int .i64 (k * q : Nat))] (fun ac hA => r_move rfl (hA.ev rfl)) rfl rfl
    · exact pu rfl rfl [(14, .slice A m c), (15, .int .i64 (k * q : Nat))] (fun ac hA => r_slice_l Tryd.underlying22 szc rfl (hA.ev rfl) (hA.ev rfl) (by omega) (by omega)) rfl rfl
    · exact pu rfl rfl [(16, .slice (if c = ((k * q : Nat) : Int).toNat then A else A.map (·.add (((k * q : Nat) : Int).toNat * 5))) (m - ((k * q : Nat) : Int).toNat) (c - ((k * q : Nat) : Int).toNat))] (fun ac hA => r_len Tryd.underlying22 rfl (hA.ev rfl)) rfl rfl
    · exact pu rfl rfl [(13, .int .i64 (q : Nat)), (17, .int .i64 ((m - ((k * q : Nat) : Int).toNat : Nat) : Int))] (fun ac hA => r_minI rfl (hA.ev rfl) (hA.ev rfl)) rfl rfl
    · exact pu rfl rfl [(18, .int .i64 (if ((m - ((k * q : Nat) : Int).toNat : Nat) : Int) < ((q : Nat) : Int) then ((m - ((k * q : Nat) : Int).toNat : Nat) : Int) else ((q : Nat) : Int)))] (fun ac hA => r_assign rfl (hA.ev rfl)) rfl rfl
    · have e : (if ((m - ((k * q : Nat) : Int).toNat : Nat) : Int) < ((q : Nat) : Int) then ((m - ((k * q : Nat) : Int).toNat : Nat) : Int) else ((q : Nat) : Int)) = (min q (m - k * q) : Nat) := by
        rw [show ((k * q : Nat) : Int).toNat = k * q from by omega]
        split <;> omega
      rw [e]
      rfl
    refine hK5 _ _ ?_
    refine wp_seq_k fun K6 hK6 => ?_
    refine (wpIn_wide (n := 6)).1 (wpIn_region_list ?_)
    refine xi_val hA (r_move rfl (hA.ev rfl)) (fun ac hA => ?_) rfl rfl rfl rfl
    refine xi_val hA (y_ld Tryd.underlying22 hd1 hA rfl rfl rfl) (fun ac hA => ?_) rfl rfl rfl rfl
    refine xi_val hA (r_move rfl (hA.ev rfl)) (fun ac hA => ?_) rfl rfl rfl rfl
    refine xi_val hA (r_move rfl (hA.ev rfl)) (fun ac hA => ?_) rfl rfl rfl rfl
    refine xi_val hA (r_move rfl (hA.ev rfl)) (fun ac hA => ?_) rfl rfl rfl rfl
    refine xi_val hA (r_add rfl (hA.ev rfl) (hA.ev rfl)) (fun ac hA => ?_) rfl rfl rfl rfl
    refine xi_val hA (r_move rfl (hA.ev rfl)) (fun ac hA => ?_) rfl rfl rfl rfl
    refine xi_val hA (r_move rfl (hA.ev rfl)) (fun ac hA => ?_) rfl rfl rfl rfl
    refine xi_val hA (r_add rfl (hA.ev rfl) (hA.ev rfl)) (fun ac hA => ?_) rfl rfl rfl rfl
    have ew : IntKind.i64.wrap (((k * q : Nat) : Int) + ((min q (m - k * q) : Nat) : Int)) = ((k * q + min q (m - k * q) : Nat) : Int) := by
      rw [show ((k * q : Nat) : Int) + ((min q (m - k * q) : Nat) : Int) = ((k * q + min q (m - k * q) : Nat) : Int) from by omega]
      exact wr64 (by omega)
    rw [ew] at hA
    refine xi_val (v := pcv A 5 q m k) hA ?_ (fun ac hA => ?_) rfl rfl rfl rfl
    · rw [← pcv_cut hq1 hlt]
      refine rv_e ?_ (r_slice_lhm (sz := 5) Tryd.underlying22 szc rfl (hA.ev rfl) (hA.ev rfl) (hA.ev rfl) (hA.ev rfl) ⟨by omega, by omega, by omega, by omega⟩)
      simp only [Int.toNat_natCast]
    refine xi_yield hA (hY k _ hdr hlt) (fun e w' h => ⟨h.1, rfl, h.2⟩) (fun ac w3 hR hA => ?_) rfl rfl rfl rfl rfl rfl
    refine xi_val hA (r_not rfl (hA.ev rfl)) (fun ac hA => ?_) rfl rfl rfl rfl
    refine wpListIn_nil ?_
    refine hK6 _ _ ?_
    refine c_f (b := !true) rfl hA ?_ rfl
    refine wp_skip ?_
    refine hKb _ _ ?_
    refine hK4 _ _ ?_
    obtain ⟨_, hJ3⟩ := hR
    obtain ⟨_, hc3, _⟩ := hJ _ _ hJ3
    refine wp_reg ?_
    refine x_move hA (fun ac hA => ?_) rfl rfl rfl rfl rfl
    refine x_ld Tryd.underlying3 hc3 hA (fun ac hA => ?_) rfl rfl rfl rfl rfl rfl
    refine x_val hA (r_add rfl (hA.ev rfl) (hA.ev rfl)) (fun ac hA => ?_) rfl rfl rfl
    refine x_assign hA (fun ac hA => ?_) rfl rfl rfl rfl rfl
    refine wpList_nil ?_
    have ew2 : IntKind.i64.wrap (((k * q : Nat) : Int) + ((q : Nat) : Int)) = (((k + 1) * q : Nat) : Int) := by
      rw [show ((k * q : Nat) : Int) + ((q : Nat) : Int) = (((k + 1) * q : Nat) : Int) from by rw [Nat.add_mul]; omega]
      exact wr64 (by rw [Nat.add_mul]; omega)
    rw [ew2] at hA
    refine ⟨⟨k + 1, hA.sub _ rfl, hJ3, hkN'⟩, ?_⟩
    rw [h4, show ac.tmps.getD 4 undef = .int .i64 ((k + 1) * q : Nat) from hA.ev (x := .tmp 4) rfl]
    simp only [Int.toNat_natCast, Nat.add_mul]
    omega
  · have hge : ¬ k * q < m := by have := of_decide_eq_false hb; omega
    have hkN' : ¬ k < (m + q - 1) / q := fun h => hge ((pcs_count hq1).2 h)
    refine wp_exit ?_
    refine hKx _ _ ?_
    refine hQn _ _ ?_
    refine lv0n Tryd.results44 hA ?_
    rw [show (m + q - 1) / q = k from by omega]
    exact hJk
end Go.Proofs.YteodeedejjcmgaaDoor.M
namespace Go.Proofs.YteodeedejjcmgaaDoor.M
open Go Go.RowKit Go.Proofs.YteodeedejjcmgaaDoor.E
set_option linter.unusedVariables false
set_option linter.unusedSimpArgs false
noncomputable def segment_uints_b1 (l316 : (List Int)) : Option ((List Int)) :=
  some l316
noncomputable def segment_uints_x1_0 (l368 : (List Int)) : Option ((List Int)) :=
  segment_uints_b1 l368
noncomputable def segment_uints_l1 (a1 : (List Int)) (l342 : (List Int)) (x346 : Int) : Option (((List Int) × Int) ⊕ (((List Int)))) :=
  if (decide (x346 < (a1.length : Int))) = true then ((at_ a1 x346).bind fun x379 => ((column_Uint l342 x379).bind fun y382 => (ltt (IntKind.i64.wrap (x346 + 1)) fun x387 => (some (.inl (y382, x387)))))) else (some (.inr (l342)))
noncomputable def segment_uints (a0 : (List Int)) (a1 : (List Int)) : Option ((List Int)) :=
  (loop (fun s => segment_uints_l1 a1 s.1 s.2) (a0, 0)).bind fun t => segment_uints_x1_0 t
noncomputable def segment_Write_r1 (l424 : (List Int)) (l428 : (List S41)) (l471 : (List S44)) : Option ((List Int) × (List S41)) :=
  (segment_chunk l471 (l424.length : Int)).bind fun y475 => (chk (l428.length + [y475].length ≤ 140737488355328 / 80) ((event_Lay l424 l471).bind fun y482 => (some (y482, l428 ++ [y475]))))
noncomputable def segment_Write_b2 (l424 : (List Int)) (l970 : (List Int)) : Option ((List Int) × Int) :=
  (page_Lay l424 102 l970).bind fun y976 => (ltt (IntKind.u8.wrap (l424.length : Int)) fun x982 => (ltt (ishr .i64 (l424.length : Int) 8) fun x984 => (ltt (IntKind.u8.wrap x984) fun x986 => (ltt (ishr .i64 (l424.length : Int) 16) fun x988 => (ltt (IntKind.u8.wrap x988) fun x990 => (ltt (ishr .i64 (l424.length : Int) 24) fun x992 => (ltt (IntKind.u8.wrap x992) fun x994 => ((page_Lay y976 116 [x982, x986, x990, x994]).bind fun y997 => (some (y997, 0))))))))))
noncomputable def segment_Write_x1_5 (l424 : (List Int)) (l1105 : (List Int)) : Option ((List Int) × Int) :=
  segment_Write_b2 l424 l1105
noncomputable def segment_Write_l1 (l428 : (List S41)) (l1051 : (List Int)) (x1055 : Int) : Option (((List Int) × Int) ⊕ (((List Int)))) :=
  if (decide (x1055 < (l428.length : Int))) = true then ((at_ l428 x1055).bind fun x1116 => (ltt (IntKind.u64.wrap x1116.f0) fun x1121 => (ltt (IntKind.u64.wrap x1116.f1) fun x1123 => ((segment_uints l1051 [x1121, x1123, x1116.f2, x1116.f3]).bind fun y1126 => ((column_Int y1126 x1116.f4).bind fun y1132 => ((column_Int y1132 x1116.f5).bind fun y1137 => ((column_Text y1137 x1116.f6).bind fun y1142 => ((column_Text y1142 x1116.f7).bind fun y1147 => (ltt (IntKind.i64.wrap (x1055 + 1)) fun x1152 => (some (.inl (y1147, x1152)))))))))))) else (some (.inr (l1051)))
noncomputable def segment_Write_rx1 (a1 : Int) (l424 : (List Int)) (l428 : (List S41)) : Option ((List Int) × Int) :=
  ltt (IntKind.u64.wrap a1) fun x494 => (ltt (IntKind.u64.wrap (l428.length : Int)) fun x496 => ((segment_uints [] [x494, x496]).bind fun y499 => ((loop (fun s => segment_Write_l1 l428 s.1 s.2) (y499, 0)).bind fun t => segment_Write_x1_5 l424 t)))
noncomputable def segment_Write_b1 (a0 : (List S44)) (a1 : Int) : Option ((List Int) × Int) :=
  (chk (a0.length ≤ 4611686018427387904) ((pcs 64 a0).foldlM (fun s l => segment_Write_r1 s.1 s.2 l) ([], []))).bind fun t => segment_Write_rx1 a1 t.1 t.2
noncomputable def segment_Write_x2_1 (a0 : (List S44)) (a1 : Int) : Option ((List Int) × Int) :=
  segment_Write_b1 a0 a1
noncomputable def segment_Write_l2 (a0 : (List S44)) (a1 : Int) (x1181 : Int) : Option ((Int) ⊕ ((Unit) ⊕ ((List Int) × Int))) :=
  if (decide (x1181 < (a0.length : Int))) = true then ((at_ a0 x1181).bind fun x1218 => ((event_Form x1218 a1).bind fun y1224 => (if (!y1224) = true then (some (.inr (.inr ([], 3)))) else ((at_ a0 0).bind fun x1229 => (ltt (IntKind.u64.wrap x1181) fun x1232 => (ltt (IntKind.u64.wrap (x1229.f0 + x1232)) fun x1234 => (if (x1218.f0 != x1234) = true then (some (.inr (.inr ([], 8)))) else (ltt (IntKind.i64.wrap (x1181 + 1)) fun x1238 => (some (.inl (x1238))))))))))) else (some (.inr (.inl ())))
noncomputable def segment_Write_j1 (a0 : (List S44)) (a1 : Int) (b107 : Bool) : Option ((List Int) × Int) :=
  if b107 = true then (some ([], 1)) else (if (decide (1024 < (a0.length : Int))) = true then (some ([], 2)) else ((loop (fun s => segment_Write_l2 a0 a1 s) (0)).bind fun t => match t with | (.inl t) => segment_Write_x2_1 a0 a1 | (.inr t) => some t))
noncomputable def segment_Write (a0 : (List S44)) (a1 : Int) : Option ((List Int) × Int) :=
  if ((a0.length : Int) == 0) = true then (segment_Write_j1 a0 a1 true) else (if (decide (a1 < 1)) = true then (segment_Write_j1 a0 a1 true) else (segment_Write_j1 a0 a1 (decide (8 < a1))))
end Go.Proofs.YteodeedejjcmgaaDoor.M
