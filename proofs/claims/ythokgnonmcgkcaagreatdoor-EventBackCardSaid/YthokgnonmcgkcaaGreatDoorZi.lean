/- Texts of the claim, joined: what it uses of Mel, Drl, Mrl, DlEventBack, MlEventBack, LEventBack, Qa, Qb. -/
import Derived.Test.YthokgnonmcgkcaaGreatDoorZh
import Derived.Test.YthokgnonmcgkcaaGreatDoorCards
import Derived.Test.YthokgnonmcgkcaaGreatDoorTie
import Derived.SevenTiedAt
import Derived.LaidMore
import Derived.OpenShut
import Derived.Stop.Joined
import Derived.ProofKit
import Derived.IntWalk
namespace Go.Proofs.YthokgnonmcgkcaaGreatDoor.M
open Go Go.RowKit Go.Proofs.YthokgnonmcgkcaaGreatDoor.E
set_option linter.unusedVariables false
set_option maxRecDepth 100000
set_option maxHeartbeats 4000000
set_option linter.unusedSimpArgs false
theorem F_event_Lay {r : World} {L : List HP} {w : World} {Z : Nat → Prop} {wz : World} (a0 : (List Int)) (a1 : (List S37)) (A0 : Option Addr) (n0 : Nat) (c0 : Nat) (A1 : Option Addr) (n1 : Nat) (c1 : Nat) {y : ((List Int))} (hF : event_Lay a0 a1 = some y) (ha1 : Imm Z wz k37 A1 n1 c1 a1) (hG0 : Imm Z wz (kI .u32) (some ⟨0, 0, none⟩) 16 16 gl_page_table) (hS : SH r (own (kI .u8) 5 A0 n0 c0 a0 :: zone Z wz :: L) w) :
  Ret Tryz.prog 6 #[.slice A0 n0 c0, .slice A1 n1 c1] w fun v w' => ∃ (Z' : Nat → Prop) (wz' : World) (B0 : Option Addr) (m0 : Nat) (d0 : Nat), v = .slice B0 m0 d0 ∧ Sub Z wz Z' wz' ∧ SH r (own (kI .u8) 5 B0 m0 d0 y :: zone Z' wz' :: L) w' := by
 refine enter Tryz.func6 rfl Tryz.ntmps6 [(0, .slice A0 n0 c0), (1, .slice A1 n1 c1)] rfl (by simp) ?_
 intro ac hA Qf hQ hQn
 unfold event_Lay at hF
 refine ws fun K101 hK101 => ?_
 refine x_m hA rfl fun ac hA => ?_
 refine wn (hK101 _ _ ?_)
 refine ws fun K102 hK102 => ?_
 refine x_m hA rfl fun ac hA => ?_
 refine x_m hA rfl fun ac hA => ?_
 refine x_m hA rfl fun ac hA => ?_
 refine wn (hK102 _ _ ?_)
 refine ws fun K103 hK103 => ?_
 refine x_m hA rfl fun ac hA => ?_
 refine wn (hK103 _ _ ?_)
 refine ws fun K104 hK104 => ?_
 refine x_m hA rfl fun ac hA => ?_
 refine wn (hK104 _ _ ?_)
 refine wp_seq_k fun K105 hK105 => ?_
 refine ws fun K10997 hK10997 => ?_
 refine x_m hA rfl fun ac hA => ?_
 refine x_len Tryz.underlying23 (hS.imm 1 ha1 rfl).2.1 hA (fun ac hA => ?_) rfl rfl rfl rfl rfl
 refine x_m hA rfl fun ac hA => ?_
 refine wn (hK10997 _ _ ?_)
 refine wp_block_k fun Kx10998 hKx10998 => ?_
 have hb1 : ∀ (l16433 : (List Int)) (l16437 : (List Int)) (l16441 : (List Int)) (l16445 : (List (List UInt8))) (l16449 : (List Nat)), event_Lay_b1 a0 l16433 l16437 l16441 l16445 l16449 = some y → ∀ (A16434 : Option Addr) (n16435 : Nat) (c16436 : Nat) (A16438 : Option Addr) (n16439 : Nat) (c16440 : Nat) (A16442 : Option Addr) (n16443 : Nat) (c16444 : Nat) (A16446 : Option Addr) (n16447 : Nat) (c16448 : Nat) (A16450 : Option Addr) (n16451 : Nat) (c16452 : Nat) (ac : Act) (w : World), FR 72 [] ac [(0, .slice A0 n0 c0), (5, .slice A16434 n16435 c16436), (6, .slice A16438 n16439 c16440), (7, .slice A16442 n16443 c16444), (8, .slice A16446 n16447 c16448), (9, .slice A16450 n16451 c16452)] → SH r (own (kI .u8) 5 A0 n0 c0 a0 :: own (kI .i64) 2 A16434 n16435 c16436 l16433 :: own (kI .i64) 2 A16438 n16439 c16440 l16437 :: own (kI .i64) 2 A16442 n16443 c16444 l16441 :: own kS 9 A16446 n16447 c16448 l16445 :: own kF 35 A16450 n16451 c16452 l16449 :: zone Z wz :: L) w → Kx10998 ac w := by
  intro l16433 l16437 l16441 l16445 l16449 hF A16434 n16435 c16436 A16438 n16439 c16440 A16442 n16443 c16444 A16446 n16447 c16448 A16450 n16451 c16452 ac w hA hS
  unfold event_Lay_b1 at hF
  refine hKx10998 _ _ ?_
  refine hK105 _ _ ?_
  refine ws fun K16453 hK16453 => ?_
  refine x_m hA rfl fun ac hA => ?_
  refine wn (hK16453 _ _ ?_)
  refine wp_seq_k fun K16454 hK16454 => ?_
  refine ws fun K16694 hK16694 => ?_
  refine x_m hA rfl fun ac hA => ?_
  obtain ⟨y16695, h16696, hF⟩ := bnd hF
  refine x_call en12 hA (F_column_Ints (L := own (kI .u8) 5 A0 n0 c0 a0 :: own (kI .i64) 2 A16434 n16435 c16436 l16433 :: own (kI .i64) 2 A16438 n16439 c16440 l16437 :: own (kI .i64) 2 A16442 n16443 c16444 l16441 :: own kS 9 A16446 n16447 c16448 l16445 :: own kF 35 A16450 n16451 c16452 l16449 :: zone Z wz :: L) l16433 A16434 n16435 c16436 h16696 (RdL.own 1 rfl (hS.dropN 0)) hS) (fun v ac w hR hA => ?_) rfl rfl rfl rfl rfl
  obtain ⟨B16697, m16698, d16699, rfl, hS⟩ := hR
  refine x_m hA rfl fun ac hA => ?_
  obtain ⟨y16700, h16701, hF⟩ := bnd hF
  refine x_call en12 hA (F_column_Ints (L := own (kI .u8) 5 B16697 m16698 d16699 y16695 :: own (kI .u8) 5 A0 n0 c0 a0 :: own (kI .i64) 2 A16434 n16435 c16436 l16433 :: own (kI .i64) 2 A16438 n16439 c16440 l16437 :: own (kI .i64) 2 A16442 n16443 c16444 l16441 :: own kS 9 A16446 n16447 c16448 l16445 :: own kF 35 A16450 n16451 c16452 l16449 :: zone Z wz :: L) l16437 A16438 n16439 c16440 h16701 (RdL.own 3 rfl (hS.dropN 0)) hS) (fun v ac w hR hA => ?_) rfl rfl rfl rfl rfl
  obtain ⟨B16702, m16703, d16704, rfl, hS⟩ := hR
  refine x_m hA rfl fun ac hA => ?_
  obtain ⟨y16705, h16706, hF⟩ := bnd hF
  refine x_call en12 hA (F_column_Ints (L := own (kI .u8) 5 B16702 m16703 d16704 y16700 :: own (kI .u8) 5 B16697 m16698 d16699 y16695 :: own (kI .u8) 5 A0 n0 c0 a0 :: own (kI .i64) 2 A16434 n16435 c16436 l16433 :: own (kI .i64) 2 A16438 n16439 c16440 l16437 :: own (kI .i64) 2 A16442 n16443 c16444 l16441 :: own kS 9 A16446 n16447 c16448 l16445 :: own kF 35 A16450 n16451 c16452 l16449 :: zone Z wz :: L) l16441 A16442 n16443 c16444 h16706 (RdL.own 5 rfl (hS.dropN 0)) hS) (fun v ac w hR hA => ?_) rfl rfl rfl rfl rfl
  obtain ⟨B16707, m16708, d16709, rfl, hS⟩ := hR
  refine x_m hA rfl fun ac hA => ?_
  obtain ⟨y16710, h16711, hF⟩ := bnd hF
  refine x_call en13 hA (F_column_Texts (L := own (kI .u8) 5 B16707 m16708 d16709 y16705 :: own (kI .u8) 5 B16702 m16703 d16704 y16700 :: own (kI .u8) 5 B16697 m16698 d16699 y16695 :: own (kI .u8) 5 A0 n0 c0 a0 :: own (kI .i64) 2 A16434 n16435 c16436 l16433 :: own (kI .i64) 2 A16438 n16439 c16440 l16437 :: own (kI .i64) 2 A16442 n16443 c16444 l16441 :: own kS 9 A16446 n16447 c16448 l16445 :: own kF 35 A16450 n16451 c16452 l16449 :: zone Z wz :: L) l16445 A16446 n16447 c16448 h16711 (RdL.own 7 rfl (hS.dropN 0)) hS) (fun v ac w hR hA => ?_) rfl rfl rfl rfl rfl
  obtain ⟨B16712, m16713, d16714, rfl, hS⟩ := hR
  refine x_m hA rfl fun ac hA => ?_
  obtain ⟨y16715, h16716, hF⟩ := bnd hF
  refine x_call en14 hA (F_column_Reals (L := own (kI .u8) 5 B16712 m16713 d16714 y16710 :: own (kI .u8) 5 B16707 m16708 d16709 y16705 :: own (kI .u8) 5 B16702 m16703 d16704 y16700 :: own (kI .u8) 5 B16697 m16698 d16699 y16695 :: own (kI .u8) 5 A0 n0 c0 a0 :: own (kI .i64) 2 A16434 n16435 c16436 l16433 :: own (kI .i64) 2 A16438 n16439 c16440 l16437 :: own (kI .i64) 2 A16442 n16443 c16444 l16441 :: own kS 9 A16446 n16447 c16448 l16445 :: own kF 35 A16450 n16451 c16452 l16449 :: zone Z wz :: L) l16449 A16450 n16451 c16452 h16716 (RdL.own 9 rfl (hS.dropN 0)) hS) (fun v ac w hR hA => ?_) rfl rfl rfl rfl rfl
  obtain ⟨B16717, m16718, d16719, rfl, hS⟩ := hR
  replace hS := hS.pk 11
  replace hS := hS.pk 5
  obtain ⟨Z16720, wz16721, hS, h16722, sb16723⟩ := SH.freeze (n := m16698) (c := d16699) (A := B16697) hS
  replace hS := hS.pk 0
  replace hS := hS.pk 4
  obtain ⟨Z16724, wz16725, hS, h16726, sb16727⟩ := SH.freeze (n := m16703) (c := d16704) (A := B16702) hS
  have h16728 := Imm.sub h16722 sb16727
  replace hS := hS.pk 0
  replace hS := hS.pk 3
  obtain ⟨Z16729, wz16730, hS, h16731, sb16732⟩ := SH.freeze (n := m16708) (c := d16709) (A := B16707) hS
  have h16733 := Imm.sub h16728 sb16732
  have h16734 := Imm.sub h16726 sb16732
  replace hS := hS.pk 0
  replace hS := hS.pk 2
  obtain ⟨Z16735, wz16736, hS, h16737, sb16738⟩ := SH.freeze (n := m16713) (c := d16714) (A := B16712) hS
  have h16739 := Imm.sub h16733 sb16738
  have h16740 := Imm.sub h16734 sb16738
  have h16741 := Imm.sub h16731 sb16738
  replace hS := hS.pk 0
  replace hS := hS.pk 1
  obtain ⟨Z16742, wz16743, hS, h16744, sb16745⟩ := SH.freeze (n := m16718) (c := d16719) (A := B16717) hS
  have h16746 := Imm.sub h16739 sb16745
  have h16747 := Imm.sub h16740 sb16745
  have h16748 := Imm.sub h16741 sb16745
  have h16749 := Imm.sub h16737 sb16745
  refine x_bsl (d := (kM Z16742 wz16743 (kI .u8))) (e := 22) (ps := #[(0, .slice B16697 m16698 d16699), (1, .slice B16702 m16703 d16704), (2, .slice B16707 m16708 d16709), (3, .slice B16712 m16713 d16714), (4, .slice B16717 m16718 d16719)]) (cells := [.slice B16697 m16698 d16699, .slice B16702 m16703 d16704, .slice B16707 m16708 d16709, .slice B16712 m16713 d16714, .slice B16717 m16718 d16719]) (xs := [y16695, y16700, y16705, y16710, y16715]) (fun w => by kernel_rfl) rfl ⟨[.slice B16697 m16698 d16699], _, rfl, ⟨_, _, _, rfl, h16746⟩, ⟨[.slice B16702 m16703 d16704], _, rfl, ⟨_, _, _, rfl, h16747⟩, ⟨[.slice B16707 m16708 d16709], _, rfl, ⟨_, _, _, rfl, h16748⟩, ⟨[.slice B16712 m16713 d16714], _, rfl, ⟨_, _, _, rfl, h16749⟩, ⟨[.slice B16717 m16718 d16719], _, rfl, ⟨_, _, _, rfl, h16744⟩, rfl⟩⟩⟩⟩⟩ hA hS (fun g16750 ac w hS hA => ?_) rfl rfl rfl rfl rfl rfl
  refine x_len Tryz.underlying45 (hS.rd 0 rfl).2.1 hA (fun ac hA => ?_) rfl rfl rfl rfl rfl
  refine x_m hA rfl fun ac hA => ?_
  refine wn (hK16694 _ _ ?_)
  refine wp_block_k fun Kx16751 hKx16751 => ?_
  have hb2 : ∀ (l16840 : (List Int)), event_Lay_b2 a0 l16840 = some y → ∀ (A16841 : Option Addr) (n16842 : Nat) (c16843 : Nat) (ac : Act) (w : World), FR 72 [] ac [(0, .slice A0 n0 c0), (12, .slice A16841 n16842 c16843)] → SH r (own (kI .u8) 5 A0 n0 c0 a0 :: own (kI .u8) 5 A16841 n16842 c16843 l16840 :: zone Z16742 wz16743 :: L) w → Kx16751 ac w := by
   intro l16840 hF A16841 n16842 c16843 ac w hA hS
   unfold event_Lay_b2 at hF
   refine hKx16751 _ _ ?_
   refine hK16454 _ _ ?_
   refine ws fun K16844 hK16844 => ?_
   refine x_m hA rfl fun ac hA => ?_
   refine x_m hA rfl fun ac hA => ?_
   obtain ⟨y16845, h16846, hF⟩ := bnd hF
   refine x_call en16 hA (F_page_Lay (L := own (kI .u8) 5 A16841 n16842 c16843 l16840 :: zone Z16742 wz16743 :: L) a0 101 l16840 A0 n0 c0 A16841 n16842 c16843 h16846 1 rfl (RdL.own 0 rfl (hS.dropN 1)) (Imm.sub hG0 (Sub.trans (Sub.trans (Sub.trans (Sub.trans sb16723 sb16727) sb16732) sb16738) sb16745)) hS) (fun v ac w hR hA => ?_) rfl rfl rfl rfl rfl
   obtain ⟨B16847, m16848, d16849, rfl, hS⟩ := hR
   refine x_m hA rfl fun ac hA => ?_
   refine wn (hK16844 _ _ ?_)
   refine wp_ret ?_
   replace hS := hS.drop 1
   replace hS := hS.pk 1
   replace hS := hS.pk 1
   cases hF
   refine hQ _ _ ?_
   refine lv Tryz.results6 hA rfl ?_
   exact ⟨Z16742, wz16743, B16847, m16848, d16849, rfl, (Sub.trans (Sub.trans (Sub.trans (Sub.trans sb16723 sb16727) sb16732) sb16738) sb16745), hS⟩
  obtain ⟨t16916, hl16916, hF⟩ := bnd hF
  have hx16916_2 : ∀ (l16913 : (List Int)), (l16913) = t16916 → ∀ (A16914 : Option Addr) (n16915 : Nat) (c16916 : Nat) (ac : Act) (w : World), FR 72 [] ac [(0, .slice A0 n0 c0), (12, .slice A16914 n16915 c16916)] → SH r (own (kI .u8) 5 A0 n0 c0 a0 :: own (kI .u8) 5 A16914 n16915 c16916 l16913 :: zone Z16742 wz16743 :: L) w → Kx16751 ac w := by
   intro l16913 ht A16914 n16915 c16916 ac w hA hS
   subst ht
   replace hF : event_Lay_x1_2 a0 l16913 = some y := hF
   unfold event_Lay_x1_2 at hF
   exact hb2 l16913 hF A16914 n16915 c16916 ac w (hA.sub _ rfl) hS
  replace hS := SH.nil_own (d := (kI .u8)) (e := 5) hS
  replace hS := hS.drop 4
  replace hS := hS.drop 4
  replace hS := hS.drop 4
  replace hS := hS.drop 4
  replace hS := hS.drop 4
  replace hS := hS.pk 2
  replace hS := hS.pk 2
  replace hS := hS.pk 2
  replace hS := hS.pk 3
  refine wp_loop_fn hl16916 (fun s ac w => ∃ (A16884 : Option Addr) (n16885 : Nat) (c16886 : Nat), FR 72 [] ac [(0, .slice A0 n0 c0), (12, .slice A16884 n16885 c16886), (58, .slice (some ⟨g16750, 0, none⟩) 5 5), (59, .int .i64 ([y16695, y16700, y16705, y16710, y16715].length : Int)), (60, .int .i64 s.2)] ∧ SH r (own (kI .u8) 5 A0 n0 c0 a0 :: own (kI .u8) 5 A16884 n16885 c16886 s.1 :: own (kM Z16742 wz16743 (kI .u8)) 22 (some ⟨g16750, 0, none⟩) 5 5 [y16695, y16700, y16705, y16710, y16715] :: zone Z16742 wz16743 :: L) w) ⟨none, 0, 0, hA.sub _ rfl, hS⟩ ?_
  intro N16916 s16916 o16916 hF N16916_ T16916_ ac w hLab
  obtain ⟨l16883, x16887⟩ := s16916
  replace hF : event_Lay_l1 y16695 y16700 y16705 y16710 y16715 l16883 x16887 = some o16916 := hF
  unfold event_Lay_l1 at hF
  try dsimp only at hLab
  obtain ⟨A16884, n16885, c16886, hA, hS⟩ := hLab
  refine ws fun K16918 hK16918 => ?_
  refine x_v hA (r_ltI rfl (hA.ev rfl) (hA.ev rfl)) rfl fun ac hA => ?_
  refine wn (hK16918 _ _ ?_)
  refine wp_seq_k fun K16919 hK16919 => ?_
  refine c_if hA rfl (fun hb16920 => ?_) fun hb16920 => ?_
  ·replace hF := ift hb16920 hF
   refine wp_skip ?_
   refine hK16919 _ _ ?_
   refine wp_seq_k fun K16921 hK16921 => ?_
   refine wp_block_k fun Kx16922 hKx16922 => ?_
   refine ws fun K16923 hK16923 => ?_
   obtain ⟨x16924, h16925, hF⟩ := bnd hF
   refine x_ia Tryz.underlying45 sz22 (hS.rd 2 rfl) h16925 hA (fun ac hA => ?_) rfl rfl rfl rfl rfl rfl
   obtain ⟨cs, hV, hc16926⟩ := el (hS.rd 2 rfl) h16925
   obtain ⟨A16927, n16928, c16929, rfl, h16930⟩ := hV
   refine x_ld Tryz.underlying22 (hc16926 0 _ rfl) hA (fun ac hA => ?_) rfl rfl rfl rfl rfl rfl
   refine x_m hA rfl fun ac hA => ?_
   refine wn (hK16923 _ _ ?_)
   refine wp_reg ?_
   refine x_m hA rfl fun ac hA => ?_
   refine x_m hA rfl fun ac hA => ?_
   refine x_b2s Tryz.underlying22 Tryz.underlying5 Tryz.underlying9 (hS.imm 3 h16930 rfl) hA (fun ac hA => ?_) rfl rfl rfl rfl rfl
   replace hS := hS.pk 1
   obtain ⟨y16931, h16932, hF⟩ := bnd hF
   refine x_call en15 hA (F_column_Text (L := own (kI .u8) 5 A0 n0 c0 a0 :: own (kM Z16742 wz16743 (kI .u8)) 22 (some ⟨g16750, 0, none⟩) 5 5 [y16695, y16700, y16705, y16710, y16715] :: zone Z16742 wz16743 :: L) l16883 (bts x16924) A16884 n16885 c16886 h16932 hS) (fun v ac w hR hA => ?_) rfl rfl rfl rfl rfl
   obtain ⟨B16933, m16934, d16935, rfl, hS⟩ := hR
   refine x_m hA rfl fun ac hA => ?_
   refine wpList_nil ?_
   refine hKx16922 _ _ ?_
   refine hK16921 _ _ ?_
   refine wp_reg ?_
   obtain ⟨x16936, h16937, hF⟩ := ltt_ hF
   refine x_v (v := .int .i64 x16936) hA (rv_i h16937 (r_add rfl (hA.ev rfl) (hA.ev rfl))) rfl fun ac hA => ?_
   refine x_m hA rfl fun ac hA => ?_
   refine wpList_nil ?_
   replace hS := hS.pk 3
   replace hS := hS.pk 3
   replace hS := hS.pk 2
   replace hS := hS.pk 3
   cases hF
   exact ⟨_, N16916_ _ rfl, B16933, m16934, d16935, hA.sub _ rfl, hS⟩
  replace hF := iff' hb16920 hF
  refine wp_exit ?_
  replace hS := hS.drop 2
  cases hF
  exact hx16916_2 l16883 (T16916_ _ rfl) A16884 n16885 c16886 ac w (hA.sub _ rfl) hS
 obtain ⟨t20600, hl20600, hF⟩ := bnd hF
 have hx20600_0 : ∀ (l20581 : (List Int)) (l20585 : (List Int)) (l20589 : (List Int)) (l20593 : (List (List UInt8))) (l20597 : (List Nat)), (l20581, l20585, l20589, l20593, l20597) = t20600 → ∀ (A20582 : Option Addr) (n20583 : Nat) (c20584 : Nat) (A20586 : Option Addr) (n20587 : Nat) (c20588 : Nat) (A20590 : Option Addr) (n20591 : Nat) (c20592 : Nat) (A20594 : Option Addr) (n20595 : Nat) (c20596 : Nat) (A20598 : Option Addr) (n20599 : Nat) (c20600 : Nat) (ac : Act) (w : World), FR 72 [] ac [(0, .slice A0 n0 c0), (5, .slice A20582 n20583 c20584), (6, .slice A20586 n20587 c20588), (7, .slice A20590 n20591 c20592), (8, .slice A20594 n20595 c20596), (9, .slice A20598 n20599 c20600)] → SH r (own (kI .u8) 5 A0 n0 c0 a0 :: own (kI .i64) 2 A20582 n20583 c20584 l20581 :: own (kI .i64) 2 A20586 n20587 c20588 l20585 :: own (kI .i64) 2 A20590 n20591 c20592 l20589 :: own kS 9 A20594 n20595 c20596 l20593 :: own kF 35 A20598 n20599 c20600 l20597 :: zone Z wz :: L) w → Kx10998 ac w := by
  intro l20581 l20585 l20589 l20593 l20597 ht A20582 n20583 c20584 A20586 n20587 c20588 A20590 n20591 c20592 A20594 n20595 c20596 A20598 n20599 c20600 ac w hA hS
  subst ht
  replace hF : event_Lay_x2_0 a0 l20581 l20585 l20589 l20593 l20597 = some y := hF
  unfold event_Lay_x2_0 at hF
  exact hb1 l20581 l20585 l20589 l20593 l20597 hF A20582 n20583 c20584 A20586 n20587 c20588 A20590 n20591 c20592 A20594 n20595 c20596 A20598 n20599 c20600 ac w (hA.sub _ rfl) hS
 replace hS := SH.nil_own (d := (kI .i64)) (e := 2) hS
 replace hS := SH.nil_own (d := (kI .i64)) (e := 2) hS
 replace hS := SH.nil_own (d := (kI .i64)) (e := 2) hS
 replace hS := SH.nil_own (d := kS) (e := 9) hS
 replace hS := SH.nil_own (d := kF) (e := 35) hS
 replace hS := hS.pk 6
 replace hS := hS.pk 1
 replace hS := hS.pk 2
 replace hS := hS.pk 3
 replace hS := hS.pk 4
 replace hS := hS.pk 5
 replace hS := hS.pk 6
 refine wp_loop_fn hl20600 (fun s ac w => ∃ (A18770 : Option Addr) (n18771 : Nat) (c18772 : Nat) (A18774 : Option Addr) (n18775 : Nat) (c18776 : Nat) (A18778 : Option Addr) (n18779 : Nat) (c18780 : Nat) (A18782 : Option Addr) (n18783 : Nat) (c18784 : Nat) (A18786 : Option Addr) (n18787 : Nat) (c18788 : Nat), FR 72 [] ac [(0, .slice A0 n0 c0), (5, .slice A18770 n18771 c18772), (6, .slice A18774 n18775 c18776), (7, .slice A18778 n18779 c18780), (8, .slice A18782 n18783 c18784), (9, .slice A18786 n18787 c18788), (15, .slice A1 n1 c1), (16, .int .i64 (a1.length : Int)), (17, .int .i64 s.2.2.2.2.2)] ∧ SH r (own (kI .u8) 5 A0 n0 c0 a0 :: own (kI .i64) 2 A18770 n18771 c18772 s.1 :: own (kI .i64) 2 A18774 n18775 c18776 s.2.1 :: own (kI .i64) 2 A18778 n18779 c18780 s.2.2.1 :: own kS 9 A18782 n18783 c18784 s.2.2.2.1 :: own kF 35 A18786 n18787 c18788 s.2.2.2.2.1 :: zone Z wz :: L) w) ⟨none, 0, 0, none, 0, 0, none, 0, 0, none, 0, 0, none, 0, 0, hA.sub _ rfl, hS⟩ ?_
 intro N20600 s20600 o20600 hF N20600_ T20600_ ac w hLab
 obtain ⟨l18769, l18773, l18777, l18781, l18785, x18789⟩ := s20600
 replace hF : event_Lay_l2 a1 l18769 l18773 l18777 l18781 l18785 x18789 = some o20600 := hF
 unfold event_Lay_l2 at hF
 try dsimp only at hLab
 obtain ⟨A18770, n18771, c18772, A18774, n18775, c18776, A18778, n18779, c18780, A18782, n18783, c18784, A18786, n18787, c18788, hA, hS⟩ := hLab
 refine ws fun K20602 hK20602 => ?_
 refine x_v hA (r_ltI rfl (hA.ev rfl) (hA.ev rfl)) rfl fun ac hA => ?_
 refine wn (hK20602 _ _ ?_)
 refine wp_seq_k fun K20603 hK20603 => ?_
 refine c_if hA rfl (fun hb20604 => ?_) fun hb20604 => ?_
 ·replace hF := ift hb20604 hF
  refine wp_skip ?_
  refine hK20603 _ _ ?_
  refine wp_seq_k fun K20605 hK20605 => ?_
  refine wp_block_k fun Kx21488 hKx21488 => ?_
  have hb3 : ∀ (l21919 : (List Int)) (l21923 : (List Int)) (l21927 : (List Int)) (l21931 : (List (List UInt8))) (l21935 : (List Nat)), event_Lay_b3 x18789 l21919 l21923 l21927 l21931 l21935 = some o20600 → ∀ (A21920 : Option Addr) (n21921 : Nat) (c21922 : Nat) (A21924 : Option Addr) (n21925 : Nat) (c21926 : Nat) (A21928 : Option Addr) (n21929 : Nat) (c21930 : Nat) (A21932 : Option Addr) (n21933 : Nat) (c21934 : Nat) (A21936 : Option Addr) (n21937 : Nat) (c21938 : Nat) (ac : Act) (w : World), FR 72 [] ac [(0, .slice A0 n0 c0), (5, .slice A21920 n21921 c21922), (6, .slice A21924 n21925 c21926), (7, .slice A21928 n21929 c21930), (8, .slice A21932 n21933 c21934), (9, .slice A21936 n21937 c21938), (15, .slice A1 n1 c1), (16, .int .i64 (a1.length : Int)), (17, .int .i64 x18789)] → SH r (own (kI .u8) 5 A0 n0 c0 a0 :: own (kI .i64) 2 A21920 n21921 c21922 l21919 :: own (kI .i64) 2 A21924 n21925 c21926 l21923 :: own (kI .i64) 2 A21928 n21929 c21930 l21927 :: own kS 9 A21932 n21933 c21934 l21931 :: own kF 35 A21936 n21937 c21938 l21935 :: zone Z wz :: L) w → Kx21488 ac w := by
   intro l21919 l21923 l21927 l21931 l21935 hF A21920 n21921 c21922 A21924 n21925 c21926 A21928 n21929 c21930 A21932 n21933 c21934 A21936 n21937 c21938 ac w hA hS
   unfold event_Lay_b3 at hF
   refine hKx21488 _ _ ?_
   refine hK20605 _ _ ?_
   refine wp_reg ?_
   obtain ⟨x21939, h21940, hF⟩ := ltt_ hF
   refine x_v (v := .int .i64 x21939) hA (rv_i h21940 (r_add rfl (hA.ev rfl) (hA.ev rfl))) rfl fun ac hA => ?_
   refine x_m hA rfl fun ac hA => ?_
   refine wpList_nil ?_
   cases hF
   exact ⟨_, N20600_ _ rfl, A21920, n21921, c21922, A21924, n21925, c21926, A21928, n21929, c21930, A21932, n21933, c21934, A21936, n21937, c21938, hA.sub _ rfl, hS⟩
  refine ws fun K21941 hK21941 => ?_
  obtain ⟨x21942, h21943, hF⟩ := bnd hF
  refine x_ia Tryz.underlying23 sz37 (hS.imm 6 ha1 rfl) h21943 hA (fun ac hA => ?_) rfl rfl rfl rfl rfl rfl
  obtain ⟨cs, hV, hc21944⟩ := el (hS.imm 6 ha1 rfl) h21943
  obtain rfl := hV
  refine x_lda (cs := [.int .u64 x21942.f0, .int .i64 x21942.f1, .int .i64 x21942.f2, str x21942.f3, .float .f64 x21942.f4]) Tryz.underlying37 sz37 (fun j u h => by rw [ea_add]; exact hc21944 _ _ h) hA (fun ac hA => ?_) rfl rfl rfl rfl rfl rfl
  refine x_alloc (cs := [.int .u64 0, .int .i64 0, .int .i64 0, str [], .float .f64 0]) zr37 hA hS (fun g21945 ac w hS hA => ?_) rfl rfl rfl rfl rfl
  refine x_stb 0 sz37 hA hS rfl (fun  ac w hS hA => ?_) rfl rfl rfl rfl rfl rfl rfl rfl
  refine wn (hK21941 _ _ ?_)
  refine wp_seq_k fun K21946 hK21946 => ?_
  have hj1 : ∀ (l22139 : (List Int)), event_Lay_j1 l18773 l18777 l18781 l18785 x18789 x21942 l22139 = some o20600 → ∀ (A22140 : Option Addr) (n22141 : Nat) (c22142 : Nat) (A22143 : Option Addr) (n22144 : Nat) (c22145 : Nat) (A22146 : Option Addr) (n22147 : Nat) (c22148 : Nat) (ac : Act) (w : World), FR 72 [] ac [(0, .slice A0 n0 c0), (5, .slice A22140 n22141 c22142), (6, .slice A22143 n22144 c22145), (7, .slice A22146 n22147 c22148), (8, .slice A18782 n18783 c18784), (9, .slice A18786 n18787 c18788), (11, .pointer (some ⟨g21945, 0, none⟩)), (15, .slice A1 n1 c1), (16, .int .i64 (a1.length : Int)), (17, .int .i64 x18789)] → SH r (blk g21945 37 [.int .u64 x21942.f0, .int .i64 x21942.f1, .int .i64 x21942.f2, str x21942.f3, .float .f64 x21942.f4] :: own (kI .u8) 5 A0 n0 c0 a0 :: own (kI .i64) 2 A22140 n22141 c22142 l22139 :: own (kI .i64) 2 A22143 n22144 c22145 (l18773 ++ [x21942.f1]) :: own (kI .i64) 2 A22146 n22147 c22148 (l18777 ++ [x21942.f2]) :: own kS 9 A18782 n18783 c18784 l18781 :: own kF 35 A18786 n18787 c18788 l18785 :: zone Z wz :: L) w → K21946 ac w := by
   intro l22139 hF A22140 n22141 c22142 A22143 n22144 c22145 A22146 n22147 c22148 ac w hA hS
   unfold event_Lay_j1 at hF
   refine hK21946 _ _ ?_
   refine wp_draw [0, 0, 2, 6, 15, 0, 0, 64, 192, 511, 1023, 2047] [3, 4, 8, 9] rfl hA hS (by kernel_rfl) (by kernel_rfl) (by kernel_rfl) (by kernel_rfl) fun w hS => ?_
   refine ⟨[(0, .slice A18782 n18783 c18784), (1, .pointer (some ⟨g21945, 3, none⟩)), (2, str x21942.f3), (5, .slice A18786 n18787 c18788), (6, .pointer (some ⟨g21945, 4, none⟩)), (7, .float .f64 x21942.f4)], ?_⟩
   refine dEff [0, 1, 2, 5, 6, 7] [3, 8] (by kernel_rfl) ⟨pu rfl rfl [(8, .slice A18782 n18783 c18784)] (fun ac hA => y_move hA rfl rfl) rfl rfl, pu rfl rfl [(11, .pointer (some ⟨g21945, 0, none⟩))] (fun ac hA => y_fab fa37_3 hA rfl rfl) rfl rfl, pu rfl rfl [(38, .pointer (some ⟨g21945, 3, none⟩))] (fun ac hA => y_ld Tryz.underlying9 (hS.cell 0 rfl 3 _ rfl) hA rfl rfl rfl) rfl rfl, pu rfl rfl [(9, .slice A18786 n18787 c18788)] (fun ac hA => y_move hA rfl rfl) rfl rfl, pu rfl rfl [(11, .pointer (some ⟨g21945, 0, none⟩))] (fun ac hA => y_fab fa37_4 hA rfl rfl) rfl rfl, pu rfl rfl [(43, .pointer (some ⟨g21945, 4, none⟩))] (fun ac hA => y_ld Tryz.underlying35 (hS.cell 0 rfl 4 _ rfl) hA rfl rfl rfl) rfl rfl, trivial⟩ (by kernel_rfl) (by kernel_rfl) ⟨?_, ?_, trivial⟩
   ·refine ef rfl [(39, str x21942.f3)] (fun ac hA K hK => ?_) rfl rfl
    refine z_bsl (d := kS) (e := 9) (ps := #[(0, str x21942.f3)]) (cells := [str x21942.f3]) (xs := [x21942.f3]) (fun w => by kernel_rfl) rfl ⟨[str x21942.f3], _, rfl, rfl, rfl⟩ hA hS (fun g22149 w hS => ?_) rfl rfl rfl
    refine hK _ [] _ rfl ?_
    refine dEff [0, 5, 6, 7] [4, 8] (by kernel_rfl) ⟨pu rfl rfl [(8, .slice A18782 n18783 c18784)] (fun ac hA => y_move hA rfl rfl) rfl rfl, pu rfl rfl [(9, .slice A18786 n18787 c18788)] (fun ac hA => y_move hA rfl rfl) rfl rfl, pu rfl rfl [(11, .pointer (some ⟨g21945, 0, none⟩))] (fun ac hA => y_fab fa37_4 hA rfl rfl) rfl rfl, pu rfl rfl [(43, .pointer (some ⟨g21945, 4, none⟩))] (fun ac hA => y_ld Tryz.underlying35 (hS.cell 1 rfl 4 _ rfl) hA rfl rfl rfl) rfl rfl, trivial⟩ (by kernel_rfl) (by kernel_rfl) ⟨?_, ?_, trivial⟩
    ·refine ef rfl [(37, .slice A18782 n18783 c18784), (40, .slice (some ⟨g22149, 0, none⟩) 1 1)] (fun ac hA K hK => ?_) rfl rfl
     obtain ⟨h22150, hF⟩ := chk_some hF
     have hr := hS.rd 0 rfl
     refine z_app 6 inf9 Tryz.underlying40 hA hS hr.1 hr.2.1 h22150 rfl (fun A22151 n22152 c22153 w hS => ?_) rfl rfl rfl rfl rfl rfl
     refine hK _ [] _ rfl ?_
     refine dEff [5, 6, 7] [8] (by kernel_rfl) ⟨pu rfl rfl [(9, .slice A18786 n18787 c18788)] (fun ac hA => y_move hA rfl rfl) rfl rfl, pu rfl rfl [(11, .pointer (some ⟨g21945, 0, none⟩))] (fun ac hA => y_fab fa37_4 hA rfl rfl) rfl rfl, pu rfl rfl [(43, .pointer (some ⟨g21945, 4, none⟩))] (fun ac hA => y_ld Tryz.underlying35 (hS.cell 2 rfl 4 _ rfl) hA rfl rfl rfl) rfl rfl, trivial⟩ (by kernel_rfl) (by kernel_rfl) ⟨ef rfl [(44, .float .f64 x21942.f4)] (fun ac hA K hK => ?_) rfl rfl, trivial⟩
     refine z_bsl (d := kF) (e := 35) (ps := #[(0, .float .f64 x21942.f4)]) (cells := [.float .f64 x21942.f4]) (xs := [x21942.f4]) (fun w => by kernel_rfl) rfl ⟨[.float .f64 x21942.f4], _, rfl, rfl, rfl⟩ hA hS (fun g22154 w hS => ?_) rfl rfl rfl
     refine hK _ [] _ rfl ?_
     refine dEff [5] [9] (by kernel_rfl) ⟨pu rfl rfl [(9, .slice A18786 n18787 c18788)] (fun ac hA => y_move hA rfl rfl) rfl rfl, trivial⟩ (by kernel_rfl) (by kernel_rfl) ⟨ef rfl [(42, .slice A18786 n18787 c18788), (45, .slice (some ⟨g22154, 0, none⟩) 1 1)] (fun ac hA K hK => ?_) rfl rfl, trivial⟩
     obtain ⟨h22155, hF⟩ := chk_some hF
     have hr := hS.rd 0 rfl
     refine z_app 8 inf35 Tryz.underlying41 hA hS hr.1 hr.2.1 h22155 rfl (fun A22156 n22157 c22158 w hS => ?_) rfl rfl rfl rfl rfl rfl
     refine hK _ [(10, .slice A22151 n22152 c22153), (11, .slice A22156 n22157 c22158)] _ rfl ?_
     refine dEnd [10, 11] (by kernel_rfl) ⟨pu rfl rfl [(41, .slice A22151 n22152 c22153)] (fun ac hA => y_assign hA rfl rfl) rfl rfl, pu rfl rfl [(46, .slice A22156 n22157 c22158)] (fun ac hA => y_assign hA rfl rfl) rfl rfl, trivial⟩ ⟨by kernel_rfl, by kernel_rfl⟩ [(0, .slice A0 n0 c0), (5, .slice A22140 n22141 c22142), (6, .slice A22143 n22144 c22145), (7, .slice A22146 n22147 c22148), (8, .slice A22151 n22152 c22153), (9, .slice A22156 n22157 c22158), (15, .slice A1 n1 c1), (16, .int .i64 (a1.length : Int)), (17, .int .i64 x18789)] rfl (fun ac hA => ?_)
     replace hS := hS.drop 1
     replace hS := hS.drop 2
     replace hS := hS.drop 2
     replace hS := hS.pk 6
     replace hS := hS.pk 1
     replace hS := hS.pk 2
     replace hS := hS.pk 6
     replace hS := hS.pk 6
     replace hS := hS.pk 6
     replace hS := hS.pk 6
     exact hb3 l22139 (l18773 ++ [x21942.f1]) (l18777 ++ [x21942.f2]) (l18781 ++ [x21942.f3]) (l18785 ++ [x21942.f4]) hF A22140 n22141 c22142 A22143 n22144 c22145 A22146 n22147 c22148 A22151 n22152 c22153 A22156 n22157 c22158 ac w (hA.sub _ rfl) hS
    ·refine ef rfl [(44, .float .f64 x21942.f4)] (fun ac hA K hK => ?_) rfl rfl
     refine z_bsl (d := kF) (e := 35) (ps := #[(0, .float .f64 x21942.f4)]) (cells := [.float .f64 x21942.f4]) (xs := [x21942.f4]) (fun w => by kernel_rfl) rfl ⟨[.float .f64 x21942.f4], _, rfl, rfl, rfl⟩ hA hS (fun g22159 w hS => ?_) rfl rfl rfl
     refine hK _ [] _ rfl ?_
     refine dEff [0, 5] [4] (by kernel_rfl) ⟨pu rfl rfl [(8, .slice A18782 n18783 c18784)] (fun ac hA => y_move hA rfl rfl) rfl rfl, pu rfl rfl [(9, .slice A18786 n18787 c18788)] (fun ac hA => y_move hA rfl rfl) rfl rfl, trivial⟩ (by kernel_rfl) (by kernel_rfl) ⟨ef rfl [(37, .slice A18782 n18783 c18784), (40, .slice (some ⟨g22149, 0, none⟩) 1 1)] (fun ac hA K hK => ?_) rfl rfl, trivial⟩
     obtain ⟨h22160, hF⟩ := chk_some hF
     have hr := hS.rd 1 rfl
     refine z_app 7 inf9 Tryz.underlying40 hA hS hr.1 hr.2.1 h22160 rfl (fun A22161 n22162 c22163 w hS => ?_) rfl rfl rfl rfl rfl rfl
     refine hK _ [] _ rfl ?_
     refine dEff [5] [9] (by kernel_rfl) ⟨pu rfl rfl [(9, .slice A18786 n18787 c18788)] (fun ac hA => y_move hA rfl rfl) rfl rfl, trivial⟩ (by kernel_rfl) (by kernel_rfl) ⟨ef rfl [(42, .slice A18786 n18787 c18788), (45, .slice (some ⟨g22159, 0, none⟩) 1 1)] (fun ac hA K hK => ?_) rfl rfl, trivial⟩
     obtain ⟨h22164, hF⟩ := chk_some hF
     have hr := hS.rd 1 rfl
     refine z_app 8 inf35 Tryz.underlying41 hA hS hr.1 hr.2.1 h22164 rfl (fun A22165 n22166 c22167 w hS => ?_) rfl rfl rfl rfl rfl rfl
     refine hK _ [(10, .slice A22161 n22162 c22163), (11, .slice A22165 n22166 c22167)] _ rfl ?_
     refine dEnd [10, 11] (by kernel_rfl) ⟨pu rfl rfl [(41, .slice A22161 n22162 c22163)] (fun ac hA => y_assign hA rfl rfl) rfl rfl, pu rfl rfl [(46, .slice A22165 n22166 c22167)] (fun ac hA => y_assign hA rfl rfl) rfl rfl, trivial⟩ ⟨by kernel_rfl, by kernel_rfl⟩ [(0, .slice A0 n0 c0), (5, .slice A22140 n22141 c22142), (6, .slice A22143 n22144 c22145), (7, .slice A22146 n22147 c22148), (8, .slice A22161 n22162 c22163), (9, .slice A22165 n22166 c22167), (15, .slice A1 n1 c1), (16, .int .i64 (a1.length : Int)), (17, .int .i64 x18789)] rfl (fun ac hA => ?_)
     replace hS := hS.drop 2
     replace hS := hS.drop 2
     replace hS := hS.drop 2
     replace hS := hS.pk 6
     replace hS := hS.pk 1
     replace hS := hS.pk 2
     replace hS := hS.pk 6
     replace hS := hS.pk 6
     replace hS := hS.pk 6
     replace hS := hS.pk 6
     exact hb3 l22139 (l18773 ++ [x21942.f1]) (l18777 ++ [x21942.f2]) (l18781 ++ [x21942.f3]) (l18785 ++ [x21942.f4]) hF A22140 n22141 c22142 A22143 n22144 c22145 A22146 n22147 c22148 A22161 n22162 c22163 A22165 n22166 c22167 ac w (hA.sub _ rfl) hS
   ·refine ef rfl [(44, .float .f64 x21942.f4)] (fun ac hA K hK => ?_) rfl rfl
    refine z_bsl (d := kF) (e := 35) (ps := #[(0, .float .f64 x21942.f4)]) (cells := [.float .f64 x21942.f4]) (xs := [x21942.f4]) (fun w => by kernel_rfl) rfl ⟨[.float .f64 x21942.f4], _, rfl, rfl, rfl⟩ hA hS (fun g22168 w hS => ?_) rfl rfl rfl
    refine hK _ [] _ rfl ?_
    refine dEff [0, 1, 2, 5] [3] (by kernel_rfl) ⟨pu rfl rfl [(8, .slice A18782 n18783 c18784)] (fun ac hA => y_move hA rfl rfl) rfl rfl, pu rfl rfl [(11, .pointer (some ⟨g21945, 0, none⟩))] (fun ac hA => y_fab fa37_3 hA rfl rfl) rfl rfl, pu rfl rfl [(38, .pointer (some ⟨g21945, 3, none⟩))] (fun ac hA => y_ld Tryz.underlying9 (hS.cell 1 rfl 3 _ rfl) hA rfl rfl rfl) rfl rfl, pu rfl rfl [(9, .slice A18786 n18787 c18788)] (fun ac hA => y_move hA rfl rfl) rfl rfl, trivial⟩ (by kernel_rfl) (by kernel_rfl) ⟨ef rfl [(39, str x21942.f3)] (fun ac hA K hK => ?_) rfl rfl, trivial⟩
    refine z_bsl (d := kS) (e := 9) (ps := #[(0, str x21942.f3)]) (cells := [str x21942.f3]) (xs := [x21942.f3]) (fun w => by kernel_rfl) rfl ⟨[str x21942.f3], _, rfl, rfl, rfl⟩ hA hS (fun g22169 w hS => ?_) rfl rfl rfl
    refine hK _ [] _ rfl ?_
    refine dEff [0, 5] [4] (by kernel_rfl) ⟨pu rfl rfl [(8, .slice A18782 n18783 c18784)] (fun ac hA => y_move hA rfl rfl) rfl rfl, pu rfl rfl [(9, .slice A18786 n18787 c18788)] (fun ac hA => y_move hA rfl rfl) rfl rfl, trivial⟩ (by kernel_rfl) (by kernel_rfl) ⟨ef rfl [(37, .slice A18782 n18783 c18784), (40, .slice (some ⟨g22169, 0, none⟩) 1 1)] (fun ac hA K hK => ?_) rfl rfl, trivial⟩
    obtain ⟨h22170, hF⟩ := chk_some hF
    have hr := hS.rd 0 rfl
    refine z_app 7 inf9 Tryz.underlying40 hA hS hr.1 hr.2.1 h22170 rfl (fun A22171 n22172 c22173 w hS => ?_) rfl rfl rfl rfl rfl rfl
    refine hK _ [] _ rfl ?_
    refine dEff [5] [9] (by kernel_rfl) ⟨pu rfl rfl [(9, .slice A18786 n18787 c18788)] (fun ac hA => y_move hA rfl rfl) rfl rfl, trivial⟩ (by kernel_rfl) (by kernel_rfl) ⟨ef rfl [(42, .slice A18786 n18787 c18788), (45, .slice (some ⟨g22168, 0, none⟩) 1 1)] (fun ac hA K hK => ?_) rfl rfl, trivial⟩
    obtain ⟨h22174, hF⟩ := chk_some hF
    have hr := hS.rd 2 rfl
    refine z_app 8 inf35 Tryz.underlying41 hA hS hr.1 hr.2.1 h22174 rfl (fun A22175 n22176 c22177 w hS => ?_) rfl rfl rfl rfl rfl rfl
    refine hK _ [(10, .slice A22171 n22172 c22173), (11, .slice A22175 n22176 c22177)] _ rfl ?_
    refine dEnd [10, 11] (by kernel_rfl) ⟨pu rfl rfl [(41, .slice A22171 n22172 c22173)] (fun ac hA => y_assign hA rfl rfl) rfl rfl, pu rfl rfl [(46, .slice A22175 n22176 c22177)] (fun ac hA => y_assign hA rfl rfl) rfl rfl, trivial⟩ ⟨by kernel_rfl, by kernel_rfl⟩ [(0, .slice A0 n0 c0), (5, .slice A22140 n22141 c22142), (6, .slice A22143 n22144 c22145), (7, .slice A22146 n22147 c22148), (8, .slice A22171 n22172 c22173), (9, .slice A22175 n22176 c22177), (15, .slice A1 n1 c1), (16, .int .i64 (a1.length : Int)), (17, .int .i64 x18789)] rfl (fun ac hA => ?_)
    replace hS := hS.drop 2
    replace hS := hS.drop 2
    replace hS := hS.drop 2
    replace hS := hS.pk 6
    replace hS := hS.pk 1
    replace hS := hS.pk 2
    replace hS := hS.pk 6
    replace hS := hS.pk 6
    replace hS := hS.pk 6
    replace hS := hS.pk 6
    exact hb3 l22139 (l18773 ++ [x21942.f1]) (l18777 ++ [x21942.f2]) (l18781 ++ [x21942.f3]) (l18785 ++ [x21942.f4]) hF A22140 n22141 c22142 A22143 n22144 c22145 A22146 n22147 c22148 A22171 n22172 c22173 A22175 n22176 c22177 ac w (hA.sub _ rfl) hS
  refine wp_draw [0, 0, 2, 6, 14, 31, 0, 0, 128, 384, 1023, 0, 0, 4096, 12288, 32767, 65535, 131071, 262143] [4, 5, 9, 10, 14, 15] rfl hA hS (by kernel_rfl) (by kernel_rfl) (by kernel_rfl) (by kernel_rfl) fun w hS => ?_
  obtain ⟨x22178, h22179, hF⟩ := ltt_ hF
  refine ⟨[(0, .slice A18770 n18771 c18772), (1, .pointer (some ⟨g21945, 0, none⟩)), (2, .int .u64 x21942.f0), (3, .int .i64 x22178), (6, .slice A18774 n18775 c18776), (7, .pointer (some ⟨g21945, 1, none⟩)), (8, .int .i64 x21942.f1), (11, .slice A18778 n18779 c18780), (12, .pointer (some ⟨g21945, 2, none⟩)), (13, .int .i64 x21942.f2)], ?_⟩
  refine dEff [0, 1, 2, 3, 6, 7, 8, 11, 12, 13] [4, 9, 14] (by kernel_rfl) ⟨pu rfl rfl [(5, .slice A18770 n18771 c18772)] (fun ac hA => y_move hA rfl rfl) rfl rfl, pu rfl rfl [(11, .pointer (some ⟨g21945, 0, none⟩))] (fun ac hA => y_fab fa37_0 hA rfl rfl) rfl rfl, pu rfl rfl [(22, .pointer (some ⟨g21945, 0, none⟩))] (fun ac hA => y_ld Tryz.underlying34 (hS.cell 0 rfl 0 _ rfl) hA rfl rfl rfl) rfl rfl, pu rfl rfl [(23, .int .u64 x21942.f0)] (fun ac hA => (rv_i h22179 (r_convI Tryz.underlying34 Tryz.underlying2 rfl (hA.ev rfl)) : RunV _ _ _ _ (.int .i64 x22178))) rfl rfl, pu rfl rfl [(6, .slice A18774 n18775 c18776)] (fun ac hA => y_move hA rfl rfl) rfl rfl, pu rfl rfl [(11, .pointer (some ⟨g21945, 0, none⟩))] (fun ac hA => y_fab fa37_1 hA rfl rfl) rfl rfl, pu rfl rfl [(28, .pointer (some ⟨g21945, 1, none⟩))] (fun ac hA => y_ld Tryz.underlying3 (hS.cell 0 rfl 1 _ rfl) hA rfl rfl rfl) rfl rfl, pu rfl rfl [(7, .slice A18778 n18779 c18780)] (fun ac hA => y_move hA rfl rfl) rfl rfl, pu rfl rfl [(11, .pointer (some ⟨g21945, 0, none⟩))] (fun ac hA => y_fab fa37_2 hA rfl rfl) rfl rfl, pu rfl rfl [(33, .pointer (some ⟨g21945, 2, none⟩))] (fun ac hA => y_ld Tryz.underlying2 (hS.cell 0 rfl 2 _ rfl) hA rfl rfl rfl) rfl rfl, trivial⟩ (by kernel_rfl) (by kernel_rfl) ⟨?_, ?_, ?_, trivial⟩
  ·refine ef rfl [(24, .int .i64 x22178)] (fun ac hA K hK => ?_) rfl rfl
   refine z_bsl (d := (kI .i64)) (e := 2) (ps := #[(0, .int .i64 x22178)]) (cells := [.int .i64 x22178]) (xs := [x22178]) (fun w => by kernel_rfl) rfl ⟨[.int .i64 x22178], _, rfl, rfl, rfl⟩ hA hS (fun g22180 w hS => ?_) rfl rfl rfl
   refine hK _ [] _ rfl ?_
   refine dEff [0, 6, 7, 8, 11, 12, 13] [5, 9, 14] (by kernel_rfl) ⟨pu rfl rfl [(5, .slice A18770 n18771 c18772)] (fun ac hA => y_move hA rfl rfl) rfl rfl, pu rfl rfl [(6, .slice A18774 n18775 c18776)] (fun ac hA => y_move hA rfl rfl) rfl rfl, pu rfl rfl [(11, .pointer (some ⟨g21945, 0, none⟩))] (fun ac hA => y_fab fa37_1 hA rfl rfl) rfl rfl, pu rfl rfl [(28, .pointer (some ⟨g21945, 1, none⟩))] (fun ac hA => y_ld Tryz.underlying3 (hS.cell 1 rfl 1 _ rfl) hA rfl rfl rfl) rfl rfl, pu rfl rfl [(7, .slice A18778 n18779 c18780)] (fun ac hA => y_move hA rfl rfl) rfl rfl, pu rfl rfl [(11, .pointer (some ⟨g21945, 0, none⟩))] (fun ac hA => y_fab fa37_2 hA rfl rfl) rfl rfl, pu rfl rfl [(33, .pointer (some ⟨g21945, 2, none⟩))] (fun ac hA => y_ld Tryz.underlying2 (hS.cell 1 rfl 2 _ rfl) hA rfl rfl rfl) rfl rfl, trivial⟩ (by kernel_rfl) (by kernel_rfl) ⟨?_, ?_, ?_, trivial⟩
   ·refine ef rfl [(21, .slice A18770 n18771 c18772), (25, .slice (some ⟨g22180, 0, none⟩) 1 1)] (fun ac hA K hK => ?_) rfl rfl
    obtain ⟨h22181, hF⟩ := chk_some hF
    have hr := hS.rd 0 rfl
    refine z_app 3 inf2 Tryz.underlying39 hA hS hr.1 hr.2.1 h22181 rfl (fun A22182 n22183 c22184 w hS => ?_) rfl rfl rfl rfl rfl rfl
    refine hK _ [] _ rfl ?_
    refine dEff [6, 7, 8, 11, 12, 13] [9, 14] (by kernel_rfl) ⟨pu rfl rfl [(6, .slice A18774 n18775 c18776)] (fun ac hA => y_move hA rfl rfl) rfl rfl, pu rfl rfl [(11, .pointer (some ⟨g21945, 0, none⟩))] (fun ac hA => y_fab fa37_1 hA rfl rfl) rfl rfl, pu rfl rfl [(28, .pointer (some ⟨g21945, 1, none⟩))] (fun ac hA => y_ld Tryz.underlying3 (hS.cell 2 rfl 1 _ rfl) hA rfl rfl rfl) rfl rfl, pu rfl rfl [(7, .slice A18778 n18779 c18780)] (fun ac hA => y_move hA rfl rfl) rfl rfl, pu rfl rfl [(11, .pointer (some ⟨g21945, 0, none⟩))] (fun ac hA => y_fab fa37_2 hA rfl rfl) rfl rfl, pu rfl rfl [(33, .pointer (some ⟨g21945, 2, none⟩))] (fun ac hA => y_ld Tryz.underlying2 (hS.cell 2 rfl 2 _ rfl) hA rfl rfl rfl) rfl rfl, trivial⟩ (by kernel_rfl) (by kernel_rfl) ⟨?_, ?_, trivial⟩
    ·refine ef rfl [(29, .int .i64 x21942.f1)] (fun ac hA K hK => ?_) rfl rfl
     refine z_bsl (d := (kI .i64)) (e := 2) (ps := #[(0, .int .i64 x21942.f1)]) (cells := [.int .i64 x21942.f1]) (xs := [x21942.f1]) (fun w => by kernel_rfl) rfl ⟨[.int .i64 x21942.f1], _, rfl, rfl, rfl⟩ hA hS (fun g22185 w hS => ?_) rfl rfl rfl
     refine hK _ [] _ rfl ?_
     refine dEff [6, 11, 12, 13] [10, 14] (by kernel_rfl) ⟨pu rfl rfl [(6, .slice A18774 n18775 c18776)] (fun ac hA => y_move hA rfl rfl) rfl rfl, pu rfl rfl [(7, .slice A18778 n18779 c18780)] (fun ac hA => y_move hA rfl rfl) rfl rfl, pu rfl rfl [(11, .pointer (some ⟨g21945, 0, none⟩))] (fun ac hA => y_fab fa37_2 hA rfl rfl) rfl rfl, pu rfl rfl [(33, .pointer (some ⟨g21945, 2, none⟩))] (fun ac hA => y_ld Tryz.underlying2 (hS.cell 3 rfl 2 _ rfl) hA rfl rfl rfl) rfl rfl, trivial⟩ (by kernel_rfl) (by kernel_rfl) ⟨?_, ?_, trivial⟩
     ·refine ef rfl [(27, .slice A18774 n18775 c18776), (30, .slice (some ⟨g22185, 0, none⟩) 1 1)] (fun ac hA K hK => ?_) rfl rfl
      obtain ⟨h22186, hF⟩ := chk_some hF
      have hr := hS.rd 0 rfl
      refine z_app 5 inf2 Tryz.underlying39 hA hS hr.1 hr.2.1 h22186 rfl (fun A22187 n22188 c22189 w hS => ?_) rfl rfl rfl rfl rfl rfl
      refine hK _ [] _ rfl ?_
      refine dEff [11, 12, 13] [14] (by kernel_rfl) ⟨pu rfl rfl [(7, .slice A18778 n18779 c18780)] (fun ac hA => y_move hA rfl rfl) rfl rfl, pu rfl rfl [(11, .pointer (some ⟨g21945, 0, none⟩))] (fun ac hA => y_fab fa37_2 hA rfl rfl) rfl rfl, pu rfl rfl [(33, .pointer (some ⟨g21945, 2, none⟩))] (fun ac hA => y_ld Tryz.underlying2 (hS.cell 4 rfl 2 _ rfl) hA rfl rfl rfl) rfl rfl, trivial⟩ (by kernel_rfl) (by kernel_rfl) ⟨ef rfl [(34, .int .i64 x21942.f2)] (fun ac hA K hK => ?_) rfl rfl, trivial⟩
      refine z_bsl (d := (kI .i64)) (e := 2) (ps := #[(0, .int .i64 x21942.f2)]) (cells := [.int .i64 x21942.f2]) (xs := [x21942.f2]) (fun w => by kernel_rfl) rfl ⟨[.int .i64 x21942.f2], _, rfl, rfl, rfl⟩ hA hS (fun g22190 w hS => ?_) rfl rfl rfl
      refine hK _ [] _ rfl ?_
      refine dEff [11] [15] (by kernel_rfl) ⟨pu rfl rfl [(7, .slice A18778 n18779 c18780)] (fun ac hA => y_move hA rfl rfl) rfl rfl, trivial⟩ (by kernel_rfl) (by kernel_rfl) ⟨ef rfl [(32, .slice A18778 n18779 c18780), (35, .slice (some ⟨g22190, 0, none⟩) 1 1)] (fun ac hA K hK => ?_) rfl rfl, trivial⟩
      obtain ⟨h22191, hF⟩ := chk_some hF
      have hr := hS.rd 0 rfl
      refine z_app 7 inf2 Tryz.underlying39 hA hS hr.1 hr.2.1 h22191 rfl (fun A22192 n22193 c22194 w hS => ?_) rfl rfl rfl rfl rfl rfl
      refine hK _ [(16, .slice A22182 n22183 c22184), (17, .slice A22187 n22188 c22189), (18, .slice A22192 n22193 c22194)] _ rfl ?_
      refine dEnd [16, 17, 18] (by kernel_rfl) ⟨pu rfl rfl [(26, .slice A22182 n22183 c22184)] (fun ac hA => y_assign hA rfl rfl) rfl rfl, pu rfl rfl [(31, .slice A22187 n22188 c22189)] (fun ac hA => y_assign hA rfl rfl) rfl rfl, pu rfl rfl [(36, .slice A22192 n22193 c22194)] (fun ac hA => y_assign hA rfl rfl) rfl rfl, trivial⟩ ⟨by kernel_rfl, by kernel_rfl⟩ [(0, .slice A0 n0 c0), (5, .slice A22182 n22183 c22184), (6, .slice A22187 n22188 c22189), (7, .slice A22192 n22193 c22194), (8, .slice A18782 n18783 c18784), (9, .slice A18786 n18787 c18788), (11, .pointer (some ⟨g21945, 0, none⟩)), (15, .slice A1 n1 c1), (16, .int .i64 (a1.length : Int)), (17, .int .i64 x18789)] rfl (fun ac hA => ?_)
      replace hS := hS.drop 1
      replace hS := hS.drop 2
      replace hS := hS.drop 3
      replace hS := hS.pk 7
      replace hS := hS.pk 7
      replace hS := hS.pk 7
      replace hS := hS.pk 3
      replace hS := hS.pk 4
      replace hS := hS.pk 5
      replace hS := hS.pk 7
      replace hS := hS.pk 7
      exact hj1 (l18769 ++ [x22178]) hF A22182 n22183 c22184 A22187 n22188 c22189 A22192 n22193 c22194 ac w (hA.sub _ rfl) hS
     ·refine ef rfl [(34, .int .i64 x21942.f2)] (fun ac hA K hK => ?_) rfl rfl
      refine z_bsl (d := (kI .i64)) (e := 2) (ps := #[(0, .int .i64 x21942.f2)]) (cells := [.int .i64 x21942.f2]) (xs := [x21942.f2]) (fun w => by kernel_rfl) rfl ⟨[.int .i64 x21942.f2], _, rfl, rfl, rfl⟩ hA hS (fun g22195 w hS => ?_) rfl rfl rfl
      refine hK _ [] _ rfl ?_
      refine dEff [6, 11] [10] (by kernel_rfl) ⟨pu rfl rfl [(6, .slice A18774 n18775 c18776)] (fun ac hA => y_move hA rfl rfl) rfl rfl, pu rfl rfl [(7, .slice A18778 n18779 c18780)] (fun ac hA => y_move hA rfl rfl) rfl rfl, trivial⟩ (by kernel_rfl) (by kernel_rfl) ⟨ef rfl [(27, .slice A18774 n18775 c18776), (30, .slice (some ⟨g22185, 0, none⟩) 1 1)] (fun ac hA K hK => ?_) rfl rfl, trivial⟩
      obtain ⟨h22196, hF⟩ := chk_some hF
      have hr := hS.rd 1 rfl
      refine z_app 6 inf2 Tryz.underlying39 hA hS hr.1 hr.2.1 h22196 rfl (fun A22197 n22198 c22199 w hS => ?_) rfl rfl rfl rfl rfl rfl
      refine hK _ [] _ rfl ?_
      refine dEff [11] [15] (by kernel_rfl) ⟨pu rfl rfl [(7, .slice A18778 n18779 c18780)] (fun ac hA => y_move hA rfl rfl) rfl rfl, trivial⟩ (by kernel_rfl) (by kernel_rfl) ⟨ef rfl [(32, .slice A18778 n18779 c18780), (35, .slice (some ⟨g22195, 0, none⟩) 1 1)] (fun ac hA K hK => ?_) rfl rfl, trivial⟩
      obtain ⟨h22200, hF⟩ := chk_some hF
      have hr := hS.rd 1 rfl
      refine z_app 7 inf2 Tryz.underlying39 hA hS hr.1 hr.2.1 h22200 rfl (fun A22201 n22202 c22203 w hS => ?_) rfl rfl rfl rfl rfl rfl
      refine hK _ [(16, .slice A22182 n22183 c22184), (17, .slice A22197 n22198 c22199), (18, .slice A22201 n22202 c22203)] _ rfl ?_
      refine dEnd [16, 17, 18] (by kernel_rfl) ⟨pu rfl rfl [(26, .slice A22182 n22183 c22184)] (fun ac hA => y_assign hA rfl rfl) rfl rfl, pu rfl rfl [(31, .slice A22197 n22198 c22199)] (fun ac hA => y_assign hA rfl rfl) rfl rfl, pu rfl rfl [(36, .slice A22201 n22202 c22203)] (fun ac hA => y_assign hA rfl rfl) rfl rfl, trivial⟩ ⟨by kernel_rfl, by kernel_rfl⟩ [(0, .slice A0 n0 c0), (5, .slice A22182 n22183 c22184), (6, .slice A22197 n22198 c22199), (7, .slice A22201 n22202 c22203), (8, .slice A18782 n18783 c18784), (9, .slice A18786 n18787 c18788), (11, .pointer (some ⟨g21945, 0, none⟩)), (15, .slice A1 n1 c1), (16, .int .i64 (a1.length : Int)), (17, .int .i64 x18789)] rfl (fun ac hA => ?_)
      replace hS := hS.drop 2
      replace hS := hS.drop 2
      replace hS := hS.drop 3
      replace hS := hS.pk 7
      replace hS := hS.pk 7
      replace hS := hS.pk 7
      replace hS := hS.pk 3
      replace hS := hS.pk 4
      replace hS := hS.pk 5
      replace hS := hS.pk 7
      replace hS := hS.pk 7
      exact hj1 (l18769 ++ [x22178]) hF A22182 n22183 c22184 A22197 n22198 c22199 A22201 n22202 c22203 ac w (hA.sub _ rfl) hS
    ·refine ef rfl [(34, .int .i64 x21942.f2)] (fun ac hA K hK => ?_) rfl rfl
     refine z_bsl (d := (kI .i64)) (e := 2) (ps := #[(0, .int .i64 x21942.f2)]) (cells := [.int .i64 x21942.f2]) (xs := [x21942.f2]) (fun w => by kernel_rfl) rfl ⟨[.int .i64 x21942.f2], _, rfl, rfl, rfl⟩ hA hS (fun g22204 w hS => ?_) rfl rfl rfl
     refine hK _ [] _ rfl ?_
     refine dEff [6, 7, 8, 11] [9] (by kernel_rfl) ⟨pu rfl rfl [(6, .slice A18774 n18775 c18776)] (fun ac hA => y_move hA rfl rfl) rfl rfl, pu rfl rfl [(11, .pointer (some ⟨g21945, 0, none⟩))] (fun ac hA => y_fab fa37_1 hA rfl rfl) rfl rfl, pu rfl rfl [(28, .pointer (some ⟨g21945, 1, none⟩))] (fun ac hA => y_ld Tryz.underlying3 (hS.cell 3 rfl 1 _ rfl) hA rfl rfl rfl) rfl rfl, pu rfl rfl [(7, .slice A18778 n18779 c18780)] (fun ac hA => y_move hA rfl rfl) rfl rfl, trivial⟩ (by kernel_rfl) (by kernel_rfl) ⟨ef rfl [(29, .int .i64 x21942.f1)] (fun ac hA K hK => ?_) rfl rfl, trivial⟩
     refine z_bsl (d := (kI .i64)) (e := 2) (ps := #[(0, .int .i64 x21942.f1)]) (cells := [.int .i64 x21942.f1]) (xs := [x21942.f1]) (fun w => by kernel_rfl) rfl ⟨[.int .i64 x21942.f1], _, rfl, rfl, rfl⟩ hA hS (fun g22205 w hS => ?_) rfl rfl rfl
     refine hK _ [] _ rfl ?_
     refine dEff [6, 11] [10] (by kernel_rfl) ⟨pu rfl rfl [(6, .slice A18774 n18775 c18776)] (fun ac hA => y_move hA rfl rfl) rfl rfl, pu rfl rfl [(7, .slice A18778 n18779 c18780)] (fun ac hA => y_move hA rfl rfl) rfl rfl, trivial⟩ (by kernel_rfl) (by kernel_rfl) ⟨ef rfl [(27, .slice A18774 n18775 c18776), (30, .slice (some ⟨g22205, 0, none⟩) 1 1)] (fun ac hA K hK => ?_) rfl rfl, trivial⟩
     obtain ⟨h22206, hF⟩ := chk_some hF
     have hr := hS.rd 0 rfl
     refine z_app 6 inf2 Tryz.underlying39 hA hS hr.1 hr.2.1 h22206 rfl (fun A22207 n22208 c22209 w hS => ?_) rfl rfl rfl rfl rfl rfl
     refine hK _ [] _ rfl ?_
     refine dEff [11] [15] (by kernel_rfl) ⟨pu rfl rfl [(7, .slice A18778 n18779 c18780)] (fun ac hA => y_move hA rfl rfl) rfl rfl, trivial⟩ (by kernel_rfl) (by kernel_rfl) ⟨ef rfl [(32, .slice A18778 n18779 c18780), (35, .slice (some ⟨g22204, 0, none⟩) 1 1)] (fun ac hA K hK => ?_) rfl rfl, trivial⟩
     obtain ⟨h22210, hF⟩ := chk_some hF
     have hr := hS.rd 2 rfl
     refine z_app 7 inf2 Tryz.underlying39 hA hS hr.1 hr.2.1 h22210 rfl (fun A22211 n22212 c22213 w hS => ?_) rfl rfl rfl rfl rfl rfl
     refine hK _ [(16, .slice A22182 n22183 c22184), (17, .slice A22207 n22208 c22209), (18, .slice A22211 n22212 c22213)] _ rfl ?_
     refine dEnd [16, 17, 18] (by kernel_rfl) ⟨pu rfl rfl [(26, .slice A22182 n22183 c22184)] (fun ac hA => y_assign hA rfl rfl) rfl rfl, pu rfl rfl [(31, .slice A22207 n22208 c22209)] (fun ac hA => y_assign hA rfl rfl) rfl rfl, pu rfl rfl [(36, .slice A22211 n22212 c22213)] (fun ac hA => y_assign hA rfl rfl) rfl rfl, trivial⟩ ⟨by kernel_rfl, by kernel_rfl⟩ [(0, .slice A0 n0 c0), (5, .slice A22182 n22183 c22184), (6, .slice A22207 n22208 c22209), (7, .slice A22211 n22212 c22213), (8, .slice A18782 n18783 c18784), (9, .slice A18786 n18787 c18788), (11, .pointer (some ⟨g21945, 0, none⟩)), (15, .slice A1 n1 c1), (16, .int .i64 (a1.length : Int)), (17, .int .i64 x18789)] rfl (fun ac hA => ?_)
     replace hS := hS.drop 2
     replace hS := hS.drop 2
     replace hS := hS.drop 3
     replace hS := hS.pk 7
     replace hS := hS.pk 7
     replace hS := hS.pk 7
     replace hS := hS.pk 3
     replace hS := hS.pk 4
     replace hS := hS.pk 5
     replace hS := hS.pk 7
     replace hS := hS.pk 7
     exact hj1 (l18769 ++ [x22178]) hF A22182 n22183 c22184 A22207 n22208 c22209 A22211 n22212 c22213 ac w (hA.sub _ rfl) hS
   ·refine ef rfl [(29, .int .i64 x21942.f1)] (fun ac hA K hK => ?_) rfl rfl
    refine z_bsl (d := (kI .i64)) (e := 2) (ps := #[(0, .int .i64 x21942.f1)]) (cells := [.int .i64 x21942.f1]) (xs := [x21942.f1]) (fun w => by kernel_rfl) rfl ⟨[.int .i64 x21942.f1], _, rfl, rfl, rfl⟩ hA hS (fun g22214 w hS => ?_) rfl rfl rfl
    refine hK _ [] _ rfl ?_
    refine dEff [0, 6, 11, 12, 13] [5, 14] (by kernel_rfl) ⟨pu rfl rfl [(5, .slice A18770 n18771 c18772)] (fun ac hA => y_move hA rfl rfl) rfl rfl, pu rfl rfl [(6, .slice A18774 n18775 c18776)] (fun ac hA => y_move hA rfl rfl) rfl rfl, pu rfl rfl [(7, .slice A18778 n18779 c18780)] (fun ac hA => y_move hA rfl rfl) rfl rfl, pu rfl rfl [(11, .pointer (some ⟨g21945, 0, none⟩))] (fun ac hA => y_fab fa37_2 hA rfl rfl) rfl rfl, pu rfl rfl [(33, .pointer (some ⟨g21945, 2, none⟩))] (fun ac hA => y_ld Tryz.underlying2 (hS.cell 2 rfl 2 _ rfl) hA rfl rfl rfl) rfl rfl, trivial⟩ (by kernel_rfl) (by kernel_rfl) ⟨?_, ?_, trivial⟩
    ·refine ef rfl [(21, .slice A18770 n18771 c18772), (25, .slice (some ⟨g22180, 0, none⟩) 1 1)] (fun ac hA K hK => ?_) rfl rfl
     obtain ⟨h22215, hF⟩ := chk_some hF
     have hr := hS.rd 1 rfl
     refine z_app 4 inf2 Tryz.underlying39 hA hS hr.1 hr.2.1 h22215 rfl (fun A22216 n22217 c22218 w hS => ?_) rfl rfl rfl rfl rfl rfl
     refine hK _ [] _ rfl ?_
     refine dEff [6, 11, 12, 13] [10, 14] (by kernel_rfl) ⟨pu rfl rfl [(6, .slice A18774 n18775 c18776)] (fun ac hA => y_move hA rfl rfl) rfl rfl, pu rfl rfl [(7, .slice A18778 n18779 c18780)] (fun ac hA => y_move hA rfl rfl) rfl rfl, pu rfl rfl [(11, .pointer (some ⟨g21945, 0, none⟩))] (fun ac hA => y_fab fa37_2 hA rfl rfl) rfl rfl, pu rfl rfl [(33, .pointer (some ⟨g21945, 2, none⟩))] (fun ac hA => y_ld Tryz.underlying2 (hS.cell 3 rfl 2 _ rfl) hA rfl rfl rfl) rfl rfl, trivial⟩ (by kernel_rfl) (by kernel_rfl) ⟨?_, ?_, trivial⟩
     ·refine ef rfl [(27, .slice A18774 n18775 c18776), (30, .slice (some ⟨g22214, 0, none⟩) 1 1)] (fun ac hA K hK => ?_) rfl rfl
      obtain ⟨h22219, hF⟩ := chk_some hF
      have hr := hS.rd 1 rfl
      refine z_app 5 inf2 Tryz.underlying39 hA hS hr.1 hr.2.1 h22219 rfl (fun A22220 n22221 c22222 w hS => ?_) rfl rfl rfl rfl rfl rfl
      refine hK _ [] _ rfl ?_
      refine dEff [11, 12, 13] [14] (by kernel_rfl) ⟨pu rfl rfl [(7, .slice A18778 n18779 c18780)] (fun ac hA => y_move hA rfl rfl) rfl rfl, pu rfl rfl [(11, .pointer (some ⟨g21945, 0, none⟩))] (fun ac hA => y_fab fa37_2 hA rfl rfl) rfl rfl, pu rfl rfl [(33, .pointer (some ⟨g21945, 2, none⟩))] (fun ac hA => y_ld Tryz.underlying2 (hS.cell 4 rfl 2 _ rfl) hA rfl rfl rfl) rfl rfl, trivial⟩ (by kernel_rfl) (by kernel_rfl) ⟨ef rfl [(34, .int .i64 x21942.f2)] (fun ac hA K hK => ?_) rfl rfl, trivial⟩
      refine z_bsl (d := (kI .i64)) (e := 2) (ps := #[(0, .int .i64 x21942.f2)]) (cells := [.int .i64 x21942.f2]) (xs := [x21942.f2]) (fun w => by kernel_rfl) rfl ⟨[.int .i64 x21942.f2], _, rfl, rfl, rfl⟩ hA hS (fun g22223 w hS => ?_) rfl rfl rfl
      refine hK _ [] _ rfl ?_
      refine dEff [11] [15] (by kernel_rfl) ⟨pu rfl rfl [(7, .slice A18778 n18779 c18780)] (fun ac hA => y_move hA rfl rfl) rfl rfl, trivial⟩ (by kernel_rfl) (by kernel_rfl) ⟨ef rfl [(32, .slice A18778 n18779 c18780), (35, .slice (some ⟨g22223, 0, none⟩) 1 1)] (fun ac hA K hK => ?_) rfl rfl, trivial⟩
      obtain ⟨h22224, hF⟩ := chk_some hF
      have hr := hS.rd 0 rfl
      refine z_app 7 inf2 Tryz.underlying39 hA hS hr.1 hr.2.1 h22224 rfl (fun A22225 n22226 c22227 w hS => ?_) rfl rfl rfl rfl rfl rfl
      refine hK _ [(16, .slice A22216 n22217 c22218), (17, .slice A22220 n22221 c22222), (18, .slice A22225 n22226 c22227)] _ rfl ?_
      refine dEnd [16, 17, 18] (by kernel_rfl) ⟨pu rfl rfl [(26, .slice A22216 n22217 c22218)] (fun ac hA => y_assign hA rfl rfl) rfl rfl, pu rfl rfl [(31, .slice A22220 n22221 c22222)] (fun ac hA => y_assign hA rfl rfl) rfl rfl, pu rfl rfl [(36, .slice A22225 n22226 c22227)] (fun ac hA => y_assign hA rfl rfl) rfl rfl, trivial⟩ ⟨by kernel_rfl, by kernel_rfl⟩ [(0, .slice A0 n0 c0), (5, .slice A22216 n22217 c22218), (6, .slice A22220 n22221 c22222), (7, .slice A22225 n22226 c22227), (8, .slice A18782 n18783 c18784), (9, .slice A18786 n18787 c18788), (11, .pointer (some ⟨g21945, 0, none⟩)), (15, .slice A1 n1 c1), (16, .int .i64 (a1.length : Int)), (17, .int .i64 x18789)] rfl (fun ac hA => ?_)
      replace hS := hS.drop 1
      replace hS := hS.drop 3
      replace hS := hS.drop 3
      replace hS := hS.pk 7
      replace hS := hS.pk 7
      replace hS := hS.pk 7
      replace hS := hS.pk 3
      replace hS := hS.pk 4
      replace hS := hS.pk 5
      replace hS := hS.pk 7
      replace hS := hS.pk 7
      exact hj1 (l18769 ++ [x22178]) hF A22216 n22217 c22218 A22220 n22221 c22222 A22225 n22226 c22227 ac w (hA.sub _ rfl) hS
     ·refine ef rfl [(34, .int .i64 x21942.f2)] (fun ac hA K hK => ?_) rfl rfl
      refine z_bsl (d := (kI .i64)) (e := 2) (ps := #[(0, .int .i64 x21942.f2)]) (cells := [.int .i64 x21942.f2]) (xs := [x21942.f2]) (fun w => by kernel_rfl) rfl ⟨[.int .i64 x21942.f2], _, rfl, rfl, rfl⟩ hA hS (fun g22228 w hS => ?_) rfl rfl rfl
      refine hK _ [] _ rfl ?_
      refine dEff [6, 11] [10] (by kernel_rfl) ⟨pu rfl rfl [(6, .slice A18774 n18775 c18776)] (fun ac hA => y_move hA rfl rfl) rfl rfl, pu rfl rfl [(7, .slice A18778 n18779 c18780)] (fun ac hA => y_move hA rfl rfl) rfl rfl, trivial⟩ (by kernel_rfl) (by kernel_rfl) ⟨ef rfl [(27, .slice A18774 n18775 c18776), (30, .slice (some ⟨g22214, 0, none⟩) 1 1)] (fun ac hA K hK => ?_) rfl rfl, trivial⟩
      obtain ⟨h22229, hF⟩ := chk_some hF
      have hr := hS.rd 2 rfl
      refine z_app 6 inf2 Tryz.underlying39 hA hS hr.1 hr.2.1 h22229 rfl (fun A22230 n22231 c22232 w hS => ?_) rfl rfl rfl rfl rfl rfl
      refine hK _ [] _ rfl ?_
      refine dEff [11] [15] (by kernel_rfl) ⟨pu rfl rfl [(7, .slice A18778 n18779 c18780)] (fun ac hA => y_move hA rfl rfl) rfl rfl, trivial⟩ (by kernel_rfl) (by kernel_rfl) ⟨ef rfl [(32, .slice A18778 n18779 c18780), (35, .slice (some ⟨g22228, 0, none⟩) 1 1)] (fun ac hA K hK => ?_) rfl rfl, trivial⟩
      obtain ⟨h22233, hF⟩ := chk_some hF
      have hr := hS.rd 1 rfl
      refine z_app 7 inf2 Tryz.underlying39 hA hS hr.1 hr.2.1 h22233 rfl (fun A22234 n22235 c22236 w hS => ?_) rfl rfl rfl rfl rfl rfl
      refine hK _ [(16, .slice A22216 n22217 c22218), (17, .slice A22230 n22231 c22232), (18, .slice A22234 n22235 c22236)] _ rfl ?_
      refine dEnd [16, 17, 18] (by kernel_rfl) ⟨pu rfl rfl [(26, .slice A22216 n22217 c22218)] (fun ac hA => y_assign hA rfl rfl) rfl rfl, pu rfl rfl [(31, .slice A22230 n22231 c22232)] (fun ac hA => y_assign hA rfl rfl) rfl rfl, pu rfl rfl [(36, .slice A22234 n22235 c22236)] (fun ac hA => y_assign hA rfl rfl) rfl rfl, trivial⟩ ⟨by kernel_rfl, by kernel_rfl⟩ [(0, .slice A0 n0 c0), (5, .slice A22216 n22217 c22218), (6, .slice A22230 n22231 c22232), (7, .slice A22234 n22235 c22236), (8, .slice A18782 n18783 c18784), (9, .slice A18786 n18787 c18788), (11, .pointer (some ⟨g21945, 0, none⟩)), (15, .slice A1 n1 c1), (16, .int .i64 (a1.length : Int)), (17, .int .i64 x18789)] rfl (fun ac hA => ?_)
      replace hS := hS.drop 2
      replace hS := hS.drop 3
      replace hS := hS.drop 3
      replace hS := hS.pk 7
      replace hS := hS.pk 7
      replace hS := hS.pk 7
      replace hS := hS.pk 3
      replace hS := hS.pk 4
      replace hS := hS.pk 5
      replace hS := hS.pk 7
      replace hS := hS.pk 7
      exact hj1 (l18769 ++ [x22178]) hF A22216 n22217 c22218 A22230 n22231 c22232 A22234 n22235 c22236 ac w (hA.sub _ rfl) hS
    ·refine ef rfl [(34, .int .i64 x21942.f2)] (fun ac hA K hK => ?_) rfl rfl
     refine z_bsl (d := (kI .i64)) (e := 2) (ps := #[(0, .int .i64 x21942.f2)]) (cells := [.int .i64 x21942.f2]) (xs := [x21942.f2]) (fun w => by kernel_rfl) rfl ⟨[.int .i64 x21942.f2], _, rfl, rfl, rfl⟩ hA hS (fun g22237 w hS => ?_) rfl rfl rfl
     refine hK _ [] _ rfl ?_
     refine dEff [0, 6, 11] [5] (by kernel_rfl) ⟨pu rfl rfl [(5, .slice A18770 n18771 c18772)] (fun ac hA => y_move hA rfl rfl) rfl rfl, pu rfl rfl [(6, .slice A18774 n18775 c18776)] (fun ac hA => y_move hA rfl rfl) rfl rfl, pu rfl rfl [(7, .slice A18778 n18779 c18780)] (fun ac hA => y_move hA rfl rfl) rfl rfl, trivial⟩ (by kernel_rfl) (by kernel_rfl) ⟨ef rfl [(21, .slice A18770 n18771 c18772), (25, .slice (some ⟨g22180, 0, none⟩) 1 1)] (fun ac hA K hK => ?_) rfl rfl, trivial⟩
     obtain ⟨h22238, hF⟩ := chk_some hF
     have hr := hS.rd 2 rfl
     refine z_app 5 inf2 Tryz.underlying39 hA hS hr.1 hr.2.1 h22238 rfl (fun A22239 n22240 c22241 w hS => ?_) rfl rfl rfl rfl rfl rfl
     refine hK _ [] _ rfl ?_
     refine dEff [6, 11] [10] (by kernel_rfl) ⟨pu rfl rfl [(6, .slice A18774 n18775 c18776)] (fun ac hA => y_move hA rfl rfl) rfl rfl, pu rfl rfl [(7, .slice A18778 n18779 c18780)] (fun ac hA => y_move hA rfl rfl) rfl rfl, trivial⟩ (by kernel_rfl) (by kernel_rfl) ⟨ef rfl [(27, .slice A18774 n18775 c18776), (30, .slice (some ⟨g22214, 0, none⟩) 1 1)] (fun ac hA K hK => ?_) rfl rfl, trivial⟩
     obtain ⟨h22242, hF⟩ := chk_some hF
     have hr := hS.rd 2 rfl
     refine z_app 6 inf2 Tryz.underlying39 hA hS hr.1 hr.2.1 h22242 rfl (fun A22243 n22244 c22245 w hS => ?_) rfl rfl rfl rfl rfl rfl
     refine hK _ [] _ rfl ?_
     refine dEff [11] [15] (by kernel_rfl) ⟨pu rfl rfl [(7, .slice A18778 n18779 c18780)] (fun ac hA => y_move hA rfl rfl) rfl rfl, trivial⟩ (by kernel_rfl) (by kernel_rfl) ⟨ef rfl [(32, .slice A18778 n18779 c18780), (35, .slice (some ⟨g22237, 0, none⟩) 1 1)] (fun ac hA K hK => ?_) rfl rfl, trivial⟩
     obtain ⟨h22246, hF⟩ := chk_some hF
     have hr := hS.rd 2 rfl
     refine z_app 7 inf2 Tryz.underlying39 hA hS hr.1 hr.2.1 h22246 rfl (fun A22247 n22248 c22249 w hS => ?_) rfl rfl rfl rfl rfl rfl
     refine hK _ [(16, .slice A22239 n22240 c22241), (17, .slice A22243 n22244 c22245), (18, .slice A22247 n22248 c22249)] _ rfl ?_
     refine dEnd [16, 17, 18] (by kernel_rfl) ⟨pu rfl rfl [(26, .slice A22239 n22240 c22241)] (fun ac hA => y_assign hA rfl rfl) rfl rfl, pu rfl rfl [(31, .slice A22243 n22244 c22245)] (fun ac hA => y_assign hA rfl rfl) rfl rfl, pu rfl rfl [(36, .slice A22247 n22248 c22249)] (fun ac hA => y_assign hA rfl rfl) rfl rfl, trivial⟩ ⟨by kernel_rfl, by kernel_rfl⟩ [(0, .slice A0 n0 c0), (5, .slice A22239 n22240 c22241), (6, .slice A22243 n22244 c22245), (7, .slice A22247 n22248 c22249), (8, .slice A18782 n18783 c18784), (9, .slice A18786 n18787 c18788), (11, .pointer (some ⟨g21945, 0, none⟩)), (15, .slice A1 n1 c1), (16, .int .i64 (a1.length : Int)), (17, .int .i64 x18789)] rfl (fun ac hA => ?_)
     replace hS := hS.drop 3
     replace hS := hS.drop 3
     replace hS := hS.drop 3
     replace hS := hS.pk 7
     replace hS := hS.pk 7
     replace hS := hS.pk 7
     replace hS := hS.pk 3
     replace hS := hS.pk 4
     replace hS := hS.pk 5
     replace hS := hS.pk 7
     replace hS := hS.pk 7
     exact hj1 (l18769 ++ [x22178]) hF A22239 n22240 c22241 A22243 n22244 c22245 A22247 n22248 c22249 ac w (hA.sub _ rfl) hS
   ·refine ef rfl [(34, .int .i64 x21942.f2)] (fun ac hA K hK => ?_) rfl rfl
    refine z_bsl (d := (kI .i64)) (e := 2) (ps := #[(0, .int .i64 x21942.f2)]) (cells := [.int .i64 x21942.f2]) (xs := [x21942.f2]) (fun w => by kernel_rfl) rfl ⟨[.int .i64 x21942.f2], _, rfl, rfl, rfl⟩ hA hS (fun g22250 w hS => ?_) rfl rfl rfl
    refine hK _ [] _ rfl ?_
    refine dEff [0, 6, 7, 8, 11] [5, 9] (by kernel_rfl) ⟨pu rfl rfl [(5, .slice A18770 n18771 c18772)] (fun ac hA => y_move hA rfl rfl) rfl rfl, pu rfl rfl [(6, .slice A18774 n18775 c18776)] (fun ac hA => y_move hA rfl rfl) rfl rfl, pu rfl rfl [(11, .pointer (some ⟨g21945, 0, none⟩))] (fun ac hA => y_fab fa37_1 hA rfl rfl) rfl rfl, pu rfl rfl [(28, .pointer (some ⟨g21945, 1, none⟩))] (fun ac hA => y_ld Tryz.underlying3 (hS.cell 2 rfl 1 _ rfl) hA rfl rfl rfl) rfl rfl, pu rfl rfl [(7, .slice A18778 n18779 c18780)] (fun ac hA => y_move hA rfl rfl) rfl rfl, trivial⟩ (by kernel_rfl) (by kernel_rfl) ⟨?_, ?_, trivial⟩
    ·refine ef rfl [(21, .slice A18770 n18771 c18772), (25, .slice (some ⟨g22180, 0, none⟩) 1 1)] (fun ac hA K hK => ?_) rfl rfl
     obtain ⟨h22251, hF⟩ := chk_some hF
     have hr := hS.rd 1 rfl
     refine z_app 4 inf2 Tryz.underlying39 hA hS hr.1 hr.2.1 h22251 rfl (fun A22252 n22253 c22254 w hS => ?_) rfl rfl rfl rfl rfl rfl
     refine hK _ [] _ rfl ?_
     refine dEff [6, 7, 8, 11] [9] (by kernel_rfl) ⟨pu rfl rfl [(6, .slice A18774 n18775 c18776)] (fun ac hA => y_move hA rfl rfl) rfl rfl, pu rfl rfl [(11, .pointer (some ⟨g21945, 0, none⟩))] (fun ac hA => y_fab fa37_1 hA rfl rfl) rfl rfl, pu rfl rfl [(28, .pointer (some ⟨g21945, 1, none⟩))] (fun ac hA => y_ld Tryz.underlying3 (hS.cell 3 rfl 1 _ rfl) hA rfl rfl rfl) rfl rfl, pu rfl rfl [(7, .slice A18778 n18779 c18780)] (fun ac hA => y_move hA rfl rfl) rfl rfl, trivial⟩ (by kernel_rfl) (by kernel_rfl) ⟨ef rfl [(29, .int .i64 x21942.f1)] (fun ac hA K hK => ?_) rfl rfl, trivial⟩
     refine z_bsl (d := (kI .i64)) (e := 2) (ps := #[(0, .int .i64 x21942.f1)]) (cells := [.int .i64 x21942.f1]) (xs := [x21942.f1]) (fun w => by kernel_rfl) rfl ⟨[.int .i64 x21942.f1], _, rfl, rfl, rfl⟩ hA hS (fun g22255 w hS => ?_) rfl rfl rfl
     refine hK _ [] _ rfl ?_
     refine dEff [6, 11] [10] (by kernel_rfl) ⟨pu rfl rfl [(6, .slice A18774 n18775 c18776)] (fun ac hA => y_move hA rfl rfl) rfl rfl, pu rfl rfl [(7, .slice A18778 n18779 c18780)] (fun ac hA => y_move hA rfl rfl) rfl rfl, trivial⟩ (by kernel_rfl) (by kernel_rfl) ⟨ef rfl [(27, .slice A18774 n18775 c18776), (30, .slice (some ⟨g22255, 0, none⟩) 1 1)] (fun ac hA K hK => ?_) rfl rfl, trivial⟩
     obtain ⟨h22256, hF⟩ := chk_some hF
     have hr := hS.rd 0 rfl
     refine z_app 6 inf2 Tryz.underlying39 hA hS hr.1 hr.2.1 h22256 rfl (fun A22257 n22258 c22259 w hS => ?_) rfl rfl rfl rfl rfl rfl
     refine hK _ [] _ rfl ?_
     refine dEff [11] [15] (by kernel_rfl) ⟨pu rfl rfl [(7, .slice A18778 n18779 c18780)] (fun ac hA => y_move hA rfl rfl) rfl rfl, trivial⟩ (by kernel_rfl) (by kernel_rfl) ⟨ef rfl [(32, .slice A18778 n18779 c18780), (35, .slice (some ⟨g22250, 0, none⟩) 1 1)] (fun ac hA K hK => ?_) rfl rfl, trivial⟩
     obtain ⟨h22260, hF⟩ := chk_some hF
     have hr := hS.rd 3 rfl
     refine z_app 7 inf2 Tryz.underlying39 hA hS hr.1 hr.2.1 h22260 rfl (fun A22261 n22262 c22263 w hS => ?_) rfl rfl rfl rfl rfl rfl
     refine hK _ [(16, .slice A22252 n22253 c22254), (17, .slice A22257 n22258 c22259), (18, .slice A22261 n22262 c22263)] _ rfl ?_
     refine dEnd [16, 17, 18] (by kernel_rfl) ⟨pu rfl rfl [(26, .slice A22252 n22253 c22254)] (fun ac hA => y_assign hA rfl rfl) rfl rfl, pu rfl rfl [(31, .slice A22257 n22258 c22259)] (fun ac hA => y_assign hA rfl rfl) rfl rfl, pu rfl rfl [(36, .slice A22261 n22262 c22263)] (fun ac hA => y_assign hA rfl rfl) rfl rfl, trivial⟩ ⟨by kernel_rfl, by kernel_rfl⟩ [(0, .slice A0 n0 c0), (5, .slice A22252 n22253 c22254), (6, .slice A22257 n22258 c22259), (7, .slice A22261 n22262 c22263), (8, .slice A18782 n18783 c18784), (9, .slice A18786 n18787 c18788), (11, .pointer (some ⟨g21945, 0, none⟩)), (15, .slice A1 n1 c1), (16, .int .i64 (a1.length : Int)), (17, .int .i64 x18789)] rfl (fun ac hA => ?_)
     replace hS := hS.drop 2
     replace hS := hS.drop 3
     replace hS := hS.drop 3
     replace hS := hS.pk 7
     replace hS := hS.pk 7
     replace hS := hS.pk 7
     replace hS := hS.pk 3
     replace hS := hS.pk 4
     replace hS := hS.pk 5
     replace hS := hS.pk 7
     replace hS := hS.pk 7
     exact hj1 (l18769 ++ [x22178]) hF A22252 n22253 c22254 A22257 n22258 c22259 A22261 n22262 c22263 ac w (hA.sub _ rfl) hS
    ·refine ef rfl [(29, .int .i64 x21942.f1)] (fun ac hA K hK => ?_) rfl rfl
     refine z_bsl (d := (kI .i64)) (e := 2) (ps := #[(0, .int .i64 x21942.f1)]) (cells := [.int .i64 x21942.f1]) (xs := [x21942.f1]) (fun w => by kernel_rfl) rfl ⟨[.int .i64 x21942.f1], _, rfl, rfl, rfl⟩ hA hS (fun g22264 w hS => ?_) rfl rfl rfl
     refine hK _ [] _ rfl ?_
     refine dEff [0, 6, 11] [5] (by kernel_rfl) ⟨pu rfl rfl [(5, .slice A18770 n18771 c18772)] (fun ac hA => y_move hA rfl rfl) rfl rfl, pu rfl rfl [(6, .slice A18774 n18775 c18776)] (fun ac hA => y_move hA rfl rfl) rfl rfl, pu rfl rfl [(7, .slice A18778 n18779 c18780)] (fun ac hA => y_move hA rfl rfl) rfl rfl, trivial⟩ (by kernel_rfl) (by kernel_rfl) ⟨ef rfl [(21, .slice A18770 n18771 c18772), (25, .slice (some ⟨g22180, 0, none⟩) 1 1)] (fun ac hA K hK => ?_) rfl rfl, trivial⟩
     obtain ⟨h22265, hF⟩ := chk_some hF
     have hr := hS.rd 2 rfl
     refine z_app 5 inf2 Tryz.underlying39 hA hS hr.1 hr.2.1 h22265 rfl (fun A22266 n22267 c22268 w hS => ?_) rfl rfl rfl rfl rfl rfl
     refine hK _ [] _ rfl ?_
     refine dEff [6, 11] [10] (by kernel_rfl) ⟨pu rfl rfl [(6, .slice A18774 n18775 c18776)] (fun ac hA => y_move hA rfl rfl) rfl rfl, pu rfl rfl [(7, .slice A18778 n18779 c18780)] (fun ac hA => y_move hA rfl rfl) rfl rfl, trivial⟩ (by kernel_rfl) (by kernel_rfl) ⟨ef rfl [(27, .slice A18774 n18775 c18776), (30, .slice (some ⟨g22264, 0, none⟩) 1 1)] (fun ac hA K hK => ?_) rfl rfl, trivial⟩
     obtain ⟨h22269, hF⟩ := chk_some hF
     have hr := hS.rd 1 rfl
     refine z_app 6 inf2 Tryz.underlying39 hA hS hr.1 hr.2.1 h22269 rfl (fun A22270 n22271 c22272 w hS => ?_) rfl rfl rfl rfl rfl rfl
     refine hK _ [] _ rfl ?_
     refine dEff [11] [15] (by kernel_rfl) ⟨pu rfl rfl [(7, .slice A18778 n18779 c18780)] (fun ac hA => y_move hA rfl rfl) rfl rfl, trivial⟩ (by kernel_rfl) (by kernel_rfl) ⟨ef rfl [(32, .slice A18778 n18779 c18780), (35, .slice (some ⟨g22250, 0, none⟩) 1 1)] (fun ac hA K hK => ?_) rfl rfl, trivial⟩
     obtain ⟨h22273, hF⟩ := chk_some hF
     have hr := hS.rd 3 rfl
     refine z_app 7 inf2 Tryz.underlying39 hA hS hr.1 hr.2.1 h22273 rfl (fun A22274 n22275 c22276 w hS => ?_) rfl rfl rfl rfl rfl rfl
     refine hK _ [(16, .slice A22266 n22267 c22268), (17, .slice A22270 n22271 c22272), (18, .slice A22274 n22275 c22276)] _ rfl ?_
     refine dEnd [16, 17, 18] (by kernel_rfl) ⟨pu rfl rfl [(26, .slice A22266 n22267 c22268)] (fun ac hA => y_assign hA rfl rfl) rfl rfl, pu rfl rfl [(31, .slice A22270 n22271 c22272)] (fun ac hA => y_assign hA rfl rfl) rfl rfl, pu rfl rfl [(36, .slice A22274 n22275 c22276)] (fun ac hA => y_assign hA rfl rfl) rfl rfl, trivial⟩ ⟨by kernel_rfl, by kernel_rfl⟩ [(0, .slice A0 n0 c0), (5, .slice A22266 n22267 c22268), (6, .slice A22270 n22271 c22272), (7, .slice A22274 n22275 c22276), (8, .slice A18782 n18783 c18784), (9, .slice A18786 n18787 c18788), (11, .pointer (some ⟨g21945, 0, none⟩)), (15, .slice A1 n1 c1), (16, .int .i64 (a1.length : Int)), (17, .int .i64 x18789)] rfl (fun ac hA => ?_)
     replace hS := hS.drop 3
     replace hS := hS.drop 3
     replace hS := hS.drop 3
     replace hS := hS.pk 7
     replace hS := hS.pk 7
     replace hS := hS.pk 7
     replace hS := hS.pk 3
     replace hS := hS.pk 4
     replace hS := hS.pk 5
     replace hS := hS.pk 7
     replace hS := hS.pk 7
     exact hj1 (l18769 ++ [x22178]) hF A22266 n22267 c22268 A22270 n22271 c22272 A22274 n22275 c22276 ac w (hA.sub _ rfl) hS
  ·refine ef rfl [(29, .int .i64 x21942.f1)] (fun ac hA K hK => ?_) rfl rfl
   refine z_bsl (d := (kI .i64)) (e := 2) (ps := #[(0, .int .i64 x21942.f1)]) (cells := [.int .i64 x21942.f1]) (xs := [x21942.f1]) (fun w => by kernel_rfl) rfl ⟨[.int .i64 x21942.f1], _, rfl, rfl, rfl⟩ hA hS (fun g22277 w hS => ?_) rfl rfl rfl
   refine hK _ [] _ rfl ?_
   refine dEff [0, 1, 2, 3, 6, 11, 12, 13] [4, 14] (by kernel_rfl) ⟨pu rfl rfl [(5, .slice A18770 n18771 c18772)] (fun ac hA => y_move hA rfl rfl) rfl rfl, pu rfl rfl [(11, .pointer (some ⟨g21945, 0, none⟩))] (fun ac hA => y_fab fa37_0 hA rfl rfl) rfl rfl, pu rfl rfl [(22, .pointer (some ⟨g21945, 0, none⟩))] (fun ac hA => y_ld Tryz.underlying34 (hS.cell 1 rfl 0 _ rfl) hA rfl rfl rfl) rfl rfl, pu rfl rfl [(23, .int .u64 x21942.f0)] (fun ac hA => (rv_i h22179 (r_convI Tryz.underlying34 Tryz.underlying2 rfl (hA.ev rfl)) : RunV _ _ _ _ (.int .i64 x22178))) rfl rfl, pu rfl rfl [(6, .slice A18774 n18775 c18776)] (fun ac hA => y_move hA rfl rfl) rfl rfl, pu rfl rfl [(7, .slice A18778 n18779 c18780)] (fun ac hA => y_move hA rfl rfl) rfl rfl, pu rfl rfl [(11, .pointer (some ⟨g21945, 0, none⟩))] (fun ac hA => y_fab fa37_2 hA rfl rfl) rfl rfl, pu rfl rfl [(33, .pointer (some ⟨g21945, 2, none⟩))] (fun ac hA => y_ld Tryz.underlying2 (hS.cell 1 rfl 2 _ rfl) hA rfl rfl rfl) rfl rfl, trivial⟩ (by kernel_rfl) (by kernel_rfl) ⟨?_, ?_, trivial⟩
   ·refine ef rfl [(24, .int .i64 x22178)] (fun ac hA K hK => ?_) rfl rfl
    refine z_bsl (d := (kI .i64)) (e := 2) (ps := #[(0, .int .i64 x22178)]) (cells := [.int .i64 x22178]) (xs := [x22178]) (fun w => by kernel_rfl) rfl ⟨[.int .i64 x22178], _, rfl, rfl, rfl⟩ hA hS (fun g22278 w hS => ?_) rfl rfl rfl
    refine hK _ [] _ rfl ?_
    refine dEff [0, 6, 11, 12, 13] [5, 14] (by kernel_rfl) ⟨pu rfl rfl [(5, .slice A18770 n18771 c18772)] (fun ac hA => y_move hA rfl rfl) rfl rfl, pu rfl rfl [(6, .slice A18774 n18775 c18776)] (fun ac hA => y_move hA rfl rfl) rfl rfl, pu rfl rfl [(7, .slice A18778 n18779 c18780)] (fun ac hA => y_move hA rfl rfl) rfl rfl, pu rfl rfl [(11, .pointer (some ⟨g21945, 0, none⟩))] (fun ac hA => y_fab fa37_2 hA rfl rfl) rfl rfl, pu rfl rfl [(33, .pointer (some ⟨g21945, 2, none⟩))] (fun ac hA => y_ld Tryz.underlying2 (hS.cell 2 rfl 2 _ rfl) hA rfl rfl rfl) rfl rfl, trivial⟩ (by kernel_rfl) (by kernel_rfl) ⟨?_, ?_, trivial⟩
    ·refine ef rfl [(21, .slice A18770 n18771 c18772), (25, .slice (some ⟨g22278, 0, none⟩) 1 1)] (fun ac hA K hK => ?_) rfl rfl
     obtain ⟨h22279, hF⟩ := chk_some hF
     have hr := hS.rd 0 rfl
     refine z_app 4 inf2 Tryz.underlying39 hA hS hr.1 hr.2.1 h22279 rfl (fun A22280 n22281 c22282 w hS => ?_) rfl rfl rfl rfl rfl rfl
     refine hK _ [] _ rfl ?_
     refine dEff [6, 11, 12, 13] [10, 14] (by kernel_rfl) ⟨pu rfl rfl [(6, .slice A18774 n18775 c18776)] (fun ac hA => y_move hA rfl rfl) rfl rfl, pu rfl rfl [(7, .slice A18778 n18779 c18780)] (fun ac hA => y_move hA rfl rfl) rfl rfl, pu rfl rfl [(11, .pointer (some ⟨g21945, 0, none⟩))] (fun ac hA => y_fab fa37_2 hA rfl rfl) rfl rfl, pu rfl rfl [(33, .pointer (some ⟨g21945, 2, none⟩))] (fun ac hA => y_ld Tryz.underlying2 (hS.cell 3 rfl 2 _ rfl) hA rfl rfl rfl) rfl rfl, trivial⟩ (by kernel_rfl) (by kernel_rfl) ⟨?_, ?_, trivial⟩
     ·refine ef rfl [(27, .slice A18774 n18775 c18776), (30, .slice (some ⟨g22277, 0, none⟩) 1 1)] (fun ac hA K hK => ?_) rfl rfl
      obtain ⟨h22283, hF⟩ := chk_some hF
      have hr := hS.rd 2 rfl
      refine z_app 5 inf2 Tryz.underlying39 hA hS hr.1 hr.2.1 h22283 rfl (fun A22284 n22285 c22286 w hS => ?_) rfl rfl rfl rfl rfl rfl
      refine hK _ [] _ rfl ?_
      refine dEff [11, 12, 13] [14] (by kernel_rfl) ⟨pu rfl rfl [(7, .slice A18778 n18779 c18780)] (fun ac hA => y_move hA rfl rfl) rfl rfl, pu rfl rfl [(11, .pointer (some ⟨g21945, 0, none⟩))] (fun ac hA => y_fab fa37_2 hA rfl rfl) rfl rfl, pu rfl rfl [(33, .pointer (some ⟨g21945, 2, none⟩))] (fun ac hA => y_ld Tryz.underlying2 (hS.cell 4 rfl 2 _ rfl) hA rfl rfl rfl) rfl rfl, trivial⟩ (by kernel_rfl) (by kernel_rfl) ⟨ef rfl [(34, .int .i64 x21942.f2)] (fun ac hA K hK => ?_) rfl rfl, trivial⟩
      refine z_bsl (d := (kI .i64)) (e := 2) (ps := #[(0, .int .i64 x21942.f2)]) (cells := [.int .i64 x21942.f2]) (xs := [x21942.f2]) (fun w => by kernel_rfl) rfl ⟨[.int .i64 x21942.f2], _, rfl, rfl, rfl⟩ hA hS (fun g22287 w hS => ?_) rfl rfl rfl
      refine hK _ [] _ rfl ?_
      refine dEff [11] [15] (by kernel_rfl) ⟨pu rfl rfl [(7, .slice A18778 n18779 c18780)] (fun ac hA => y_move hA rfl rfl) rfl rfl, trivial⟩ (by kernel_rfl) (by kernel_rfl) ⟨ef rfl [(32, .slice A18778 n18779 c18780), (35, .slice (some ⟨g22287, 0, none⟩) 1 1)] (fun ac hA K hK => ?_) rfl rfl, trivial⟩
      obtain ⟨h22288, hF⟩ := chk_some hF
      have hr := hS.rd 0 rfl
      refine z_app 7 inf2 Tryz.underlying39 hA hS hr.1 hr.2.1 h22288 rfl (fun A22289 n22290 c22291 w hS => ?_) rfl rfl rfl rfl rfl rfl
      refine hK _ [(16, .slice A22280 n22281 c22282), (17, .slice A22284 n22285 c22286), (18, .slice A22289 n22290 c22291)] _ rfl ?_
      refine dEnd [16, 17, 18] (by kernel_rfl) ⟨pu rfl rfl [(26, .slice A22280 n22281 c22282)] (fun ac hA => y_assign hA rfl rfl) rfl rfl, pu rfl rfl [(31, .slice A22284 n22285 c22286)] (fun ac hA => y_assign hA rfl rfl) rfl rfl, pu rfl rfl [(36, .slice A22289 n22290 c22291)] (fun ac hA => y_assign hA rfl rfl) rfl rfl, trivial⟩ ⟨by kernel_rfl, by kernel_rfl⟩ [(0, .slice A0 n0 c0), (5, .slice A22280 n22281 c22282), (6, .slice A22284 n22285 c22286), (7, .slice A22289 n22290 c22291), (8, .slice A18782 n18783 c18784), (9, .slice A18786 n18787 c18788), (11, .pointer (some ⟨g21945, 0, none⟩)), (15, .slice A1 n1 c1), (16, .int .i64 (a1.length : Int)), (17, .int .i64 x18789)] rfl (fun ac hA => ?_)
      replace hS := hS.drop 1
      replace hS := hS.drop 3
      replace hS := hS.drop 3
      replace hS := hS.pk 7
      replace hS := hS.pk 7
      replace hS := hS.pk 7
      replace hS := hS.pk 3
      replace hS := hS.pk 4
      replace hS := hS.pk 5
      replace hS := hS.pk 7
      replace hS := hS.pk 7
      exact hj1 (l18769 ++ [x22178]) hF A22280 n22281 c22282 A22284 n22285 c22286 A22289 n22290 c22291 ac w (hA.sub _ rfl) hS
     ·refine ef rfl [(34, .int .i64 x21942.f2)] (fun ac hA K hK => ?_) rfl rfl
      refine z_bsl (d := (kI .i64)) (e := 2) (ps := #[(0, .int .i64 x21942.f2)]) (cells := [.int .i64 x21942.f2]) (xs := [x21942.f2]) (fun w => by kernel_rfl) rfl ⟨[.int .i64 x21942.f2], _, rfl, rfl, rfl⟩ hA hS (fun g22292 w hS => ?_) rfl rfl rfl
      refine hK _ [] _ rfl ?_
      refine dEff [6, 11] [10] (by kernel_rfl) ⟨pu rfl rfl [(6, .slice A18774 n18775 c18776)] (fun ac hA => y_move hA rfl rfl) rfl rfl, pu rfl rfl [(7, .slice A18778 n18779 c18780)] (fun ac hA => y_move hA rfl rfl) rfl rfl, trivial⟩ (by kernel_rfl) (by kernel_rfl) ⟨ef rfl [(27, .slice A18774 n18775 c18776), (30, .slice (some ⟨g22277, 0, none⟩) 1 1)] (fun ac hA K hK => ?_) rfl rfl, trivial⟩
      obtain ⟨h22293, hF⟩ := chk_some hF
      have hr := hS.rd 3 rfl
      refine z_app 6 inf2 Tryz.underlying39 hA hS hr.1 hr.2.1 h22293 rfl (fun A22294 n22295 c22296 w hS => ?_) rfl rfl rfl rfl rfl rfl
      refine hK _ [] _ rfl ?_
      refine dEff [11] [15] (by kernel_rfl) ⟨pu rfl rfl [(7, .slice A18778 n18779 c18780)] (fun ac hA => y_move hA rfl rfl) rfl rfl, trivial⟩ (by kernel_rfl) (by kernel_rfl) ⟨ef rfl [(32, .slice A18778 n18779 c18780), (35, .slice (some ⟨g22292, 0, none⟩) 1 1)] (fun ac hA K hK => ?_) rfl rfl, trivial⟩
      obtain ⟨h22297, hF⟩ := chk_some hF
      have hr := hS.rd 1 rfl
      refine z_app 7 inf2 Tryz.underlying39 hA hS hr.1 hr.2.1 h22297 rfl (fun A22298 n22299 c22300 w hS => ?_) rfl rfl rfl rfl rfl rfl
      refine hK _ [(16, .slice A22280 n22281 c22282), (17, .slice A22294 n22295 c22296), (18, .slice A22298 n22299 c22300)] _ rfl ?_
      refine dEnd [16, 17, 18] (by kernel_rfl) ⟨pu rfl rfl [(26, .slice A22280 n22281 c22282)] (fun ac hA => y_assign hA rfl rfl) rfl rfl, pu rfl rfl [(31, .slice A22294 n22295 c22296)] (fun ac hA => y_assign hA rfl rfl) rfl rfl, pu rfl rfl [(36, .slice A22298 n22299 c22300)] (fun ac hA => y_assign hA rfl rfl) rfl rfl, trivial⟩ ⟨by kernel_rfl, by kernel_rfl⟩ [(0, .slice A0 n0 c0), (5, .slice A22280 n22281 c22282), (6, .slice A22294 n22295 c22296), (7, .slice A22298 n22299 c22300), (8, .slice A18782 n18783 c18784), (9, .slice A18786 n18787 c18788), (11, .pointer (some ⟨g21945, 0, none⟩)), (15, .slice A1 n1 c1), (16, .int .i64 (a1.length : Int)), (17, .int .i64 x18789)] rfl (fun ac hA => ?_)
      replace hS := hS.drop 2
      replace hS := hS.drop 3
      replace hS := hS.drop 3
      replace hS := hS.pk 7
      replace hS := hS.pk 7
      replace hS := hS.pk 7
      replace hS := hS.pk 3
      replace hS := hS.pk 4
      replace hS := hS.pk 5
      replace hS := hS.pk 7
      replace hS := hS.pk 7
      exact hj1 (l18769 ++ [x22178]) hF A22280 n22281 c22282 A22294 n22295 c22296 A22298 n22299 c22300 ac w (hA.sub _ rfl) hS
    ·refine ef rfl [(34, .int .i64 x21942.f2)] (fun ac hA K hK => ?_) rfl rfl
     refine z_bsl (d := (kI .i64)) (e := 2) (ps := #[(0, .int .i64 x21942.f2)]) (cells := [.int .i64 x21942.f2]) (xs := [x21942.f2]) (fun w => by kernel_rfl) rfl ⟨[.int .i64 x21942.f2], _, rfl, rfl, rfl⟩ hA hS (fun g22301 w hS => ?_) rfl rfl rfl
     refine hK _ [] _ rfl ?_
     refine dEff [0, 6, 11] [5] (by kernel_rfl) ⟨pu rfl rfl [(5, .slice A18770 n18771 c18772)] (fun ac hA => y_move hA rfl rfl) rfl rfl, pu rfl rfl [(6, .slice A18774 n18775 c18776)] (fun ac hA => y_move hA rfl rfl) rfl rfl, pu rfl rfl [(7, .slice A18778 n18779 c18780)] (fun ac hA => y_move hA rfl rfl) rfl rfl, trivial⟩ (by kernel_rfl) (by kernel_rfl) ⟨ef rfl [(21, .slice A18770 n18771 c18772), (25, .slice (some ⟨g22278, 0, none⟩) 1 1)] (fun ac hA K hK => ?_) rfl rfl, trivial⟩
     obtain ⟨h22302, hF⟩ := chk_some hF
     have hr := hS.rd 1 rfl
     refine z_app 5 inf2 Tryz.underlying39 hA hS hr.1 hr.2.1 h22302 rfl (fun A22303 n22304 c22305 w hS => ?_) rfl rfl rfl rfl rfl rfl
     refine hK _ [] _ rfl ?_
     refine dEff [6, 11] [10] (by kernel_rfl) ⟨pu rfl rfl [(6, .slice A18774 n18775 c18776)] (fun ac hA => y_move hA rfl rfl) rfl rfl, pu rfl rfl [(7, .slice A18778 n18779 c18780)] (fun ac hA => y_move hA rfl rfl) rfl rfl, trivial⟩ (by kernel_rfl) (by kernel_rfl) ⟨ef rfl [(27, .slice A18774 n18775 c18776), (30, .slice (some ⟨g22277, 0, none⟩) 1 1)] (fun ac hA K hK => ?_) rfl rfl, trivial⟩
     obtain ⟨h22306, hF⟩ := chk_some hF
     have hr := hS.rd 3 rfl
     refine z_app 6 inf2 Tryz.underlying39 hA hS hr.1 hr.2.1 h22306 rfl (fun A22307 n22308 c22309 w hS => ?_) rfl rfl rfl rfl rfl rfl
     refine hK _ [] _ rfl ?_
     refine dEff [11] [15] (by kernel_rfl) ⟨pu rfl rfl [(7, .slice A18778 n18779 c18780)] (fun ac hA => y_move hA rfl rfl) rfl rfl, trivial⟩ (by kernel_rfl) (by kernel_rfl) ⟨ef rfl [(32, .slice A18778 n18779 c18780), (35, .slice (some ⟨g22301, 0, none⟩) 1 1)] (fun ac hA K hK => ?_) rfl rfl, trivial⟩
     obtain ⟨h22310, hF⟩ := chk_some hF
     have hr := hS.rd 2 rfl
     refine z_app 7 inf2 Tryz.underlying39 hA hS hr.1 hr.2.1 h22310 rfl (fun A22311 n22312 c22313 w hS => ?_) rfl rfl rfl rfl rfl rfl
     refine hK _ [(16, .slice A22303 n22304 c22305), (17, .slice A22307 n22308 c22309), (18, .slice A22311 n22312 c22313)] _ rfl ?_
     refine dEnd [16, 17, 18] (by kernel_rfl) ⟨pu rfl rfl [(26, .slice A22303 n22304 c22305)] (fun ac hA => y_assign hA rfl rfl) rfl rfl, pu rfl rfl [(31, .slice A22307 n22308 c22309)] (fun ac hA => y_assign hA rfl rfl) rfl rfl, pu rfl rfl [(36, .slice A22311 n22312 c22313)] (fun ac hA => y_assign hA rfl rfl) rfl rfl, trivial⟩ ⟨by kernel_rfl, by kernel_rfl⟩ [(0, .slice A0 n0 c0), (5, .slice A22303 n22304 c22305), (6, .slice A22307 n22308 c22309), (7, .slice A22311 n22312 c22313), (8, .slice A18782 n18783 c18784), (9, .slice A18786 n18787 c18788), (11, .pointer (some ⟨g21945, 0, none⟩)), (15, .slice A1 n1 c1), (16, .int .i64 (a1.length : Int)), (17, .int .i64 x18789)] rfl (fun ac hA => ?_)
     replace hS := hS.drop 3
     replace hS := hS.drop 3
     replace hS := hS.drop 3
     replace hS := hS.pk 7
     replace hS := hS.pk 7
     replace hS := hS.pk 7
     replace hS := hS.pk 3
     replace hS := hS.pk 4
     replace hS := hS.pk 5
     replace hS := hS.pk 7
     replace hS := hS.pk 7
     exact hj1 (l18769 ++ [x22178]) hF A22303 n22304 c22305 A22307 n22308 c22309 A22311 n22312 c22313 ac w (hA.sub _ rfl) hS
   ·refine ef rfl [(34, .int .i64 x21942.f2)] (fun ac hA K hK => ?_) rfl rfl
    refine z_bsl (d := (kI .i64)) (e := 2) (ps := #[(0, .int .i64 x21942.f2)]) (cells := [.int .i64 x21942.f2]) (xs := [x21942.f2]) (fun w => by kernel_rfl) rfl ⟨[.int .i64 x21942.f2], _, rfl, rfl, rfl⟩ hA hS (fun g22314 w hS => ?_) rfl rfl rfl
    refine hK _ [] _ rfl ?_
    refine dEff [0, 1, 2, 3, 6, 11] [4] (by kernel_rfl) ⟨pu rfl rfl [(5, .slice A18770 n18771 c18772)] (fun ac hA => y_move hA rfl rfl) rfl rfl, pu rfl rfl [(11, .pointer (some ⟨g21945, 0, none⟩))] (fun ac hA => y_fab fa37_0 hA rfl rfl) rfl rfl, pu rfl rfl [(22, .pointer (some ⟨g21945, 0, none⟩))] (fun ac hA => y_ld Tryz.underlying34 (hS.cell 2 rfl 0 _ rfl) hA rfl rfl rfl) rfl rfl, pu rfl rfl [(23, .int .u64 x21942.f0)] (fun ac hA => (rv_i h22179 (r_convI Tryz.underlying34 Tryz.underlying2 rfl (hA.ev rfl)) : RunV _ _ _ _ (.int .i64 x22178))) rfl rfl, pu rfl rfl [(6, .slice A18774 n18775 c18776)] (fun ac hA => y_move hA rfl rfl) rfl rfl, pu rfl rfl [(7, .slice A18778 n18779 c18780)] (fun ac hA => y_move hA rfl rfl) rfl rfl, trivial⟩ (by kernel_rfl) (by kernel_rfl) ⟨ef rfl [(24, .int .i64 x22178)] (fun ac hA K hK => ?_) rfl rfl, trivial⟩
    refine z_bsl (d := (kI .i64)) (e := 2) (ps := #[(0, .int .i64 x22178)]) (cells := [.int .i64 x22178]) (xs := [x22178]) (fun w => by kernel_rfl) rfl ⟨[.int .i64 x22178], _, rfl, rfl, rfl⟩ hA hS (fun g22315 w hS => ?_) rfl rfl rfl
    refine hK _ [] _ rfl ?_
    refine dEff [0, 6, 11] [5] (by kernel_rfl) ⟨pu rfl rfl [(5, .slice A18770 n18771 c18772)] (fun ac hA => y_move hA rfl rfl) rfl rfl, pu rfl rfl [(6, .slice A18774 n18775 c18776)] (fun ac hA => y_move hA rfl rfl) rfl rfl, pu rfl rfl [(7, .slice A18778 n18779 c18780)] (fun ac hA => y_move hA rfl rfl) rfl rfl, trivial⟩ (by kernel_rfl) (by kernel_rfl) ⟨ef rfl [(21, .slice A18770 n18771 c18772), (25, .slice (some ⟨g22315, 0, none⟩) 1 1)] (fun ac hA K hK => ?_) rfl rfl, trivial⟩
    obtain ⟨h22316, hF⟩ := chk_some hF
    have hr := hS.rd 0 rfl
    refine z_app 5 inf2 Tryz.underlying39 hA hS hr.1 hr.2.1 h22316 rfl (fun A22317 n22318 c22319 w hS => ?_) rfl rfl rfl rfl rfl rfl
    refine hK _ [] _ rfl ?_
    refine dEff [6, 11] [10] (by kernel_rfl) ⟨pu rfl rfl [(6, .slice A18774 n18775 c18776)] (fun ac hA => y_move hA rfl rfl) rfl rfl, pu rfl rfl [(7, .slice A18778 n18779 c18780)] (fun ac hA => y_move hA rfl rfl) rfl rfl, trivial⟩ (by kernel_rfl) (by kernel_rfl) ⟨ef rfl [(27, .slice A18774 n18775 c18776), (30, .slice (some ⟨g22277, 0, none⟩) 1 1)] (fun ac hA K hK => ?_) rfl rfl, trivial⟩
    obtain ⟨h22320, hF⟩ := chk_some hF
    have hr := hS.rd 3 rfl
    refine z_app 6 inf2 Tryz.underlying39 hA hS hr.1 hr.2.1 h22320 rfl (fun A22321 n22322 c22323 w hS => ?_) rfl rfl rfl rfl rfl rfl
    refine hK _ [] _ rfl ?_
    refine dEff [11] [15] (by kernel_rfl) ⟨pu rfl rfl [(7, .slice A18778 n18779 c18780)] (fun ac hA => y_move hA rfl rfl) rfl rfl, trivial⟩ (by kernel_rfl) (by kernel_rfl) ⟨ef rfl [(32, .slice A18778 n18779 c18780), (35, .slice (some ⟨g22314, 0, none⟩) 1 1)] (fun ac hA K hK => ?_) rfl rfl, trivial⟩
    obtain ⟨h22324, hF⟩ := chk_some hF
    have hr := hS.rd 3 rfl
    refine z_app 7 inf2 Tryz.underlying39 hA hS hr.1 hr.2.1 h22324 rfl (fun A22325 n22326 c22327 w hS => ?_) rfl rfl rfl rfl rfl rfl
    refine hK _ [(16, .slice A22317 n22318 c22319), (17, .slice A22321 n22322 c22323), (18, .slice A22325 n22326 c22327)] _ rfl ?_
    refine dEnd [16, 17, 18] (by kernel_rfl) ⟨pu rfl rfl [(26, .slice A22317 n22318 c22319)] (fun ac hA => y_assign hA rfl rfl) rfl rfl, pu rfl rfl [(31, .slice A22321 n22322 c22323)] (fun ac hA => y_assign hA rfl rfl) rfl rfl, pu rfl rfl [(36, .slice A22325 n22326 c22327)] (fun ac hA => y_assign hA rfl rfl) rfl rfl, trivial⟩ ⟨by kernel_rfl, by kernel_rfl⟩ [(0, .slice A0 n0 c0), (5, .slice A22317 n22318 c22319), (6, .slice A22321 n22322 c22323), (7, .slice A22325 n22326 c22327), (8, .slice A18782 n18783 c18784), (9, .slice A18786 n18787 c18788), (11, .pointer (some ⟨g21945, 0, none⟩)), (15, .slice A1 n1 c1), (16, .int .i64 (a1.length : Int)), (17, .int .i64 x18789)] rfl (fun ac hA => ?_)
    replace hS := hS.drop 3
    replace hS := hS.drop 3
    replace hS := hS.drop 3
    replace hS := hS.pk 7
    replace hS := hS.pk 7
    replace hS := hS.pk 7
    replace hS := hS.pk 3
    replace hS := hS.pk 4
    replace hS := hS.pk 5
    replace hS := hS.pk 7
    replace hS := hS.pk 7
    exact hj1 (l18769 ++ [x22178]) hF A22317 n22318 c22319 A22321 n22322 c22323 A22325 n22326 c22327 ac w (hA.sub _ rfl) hS
  ·refine ef rfl [(34, .int .i64 x21942.f2)] (fun ac hA K hK => ?_) rfl rfl
   refine z_bsl (d := (kI .i64)) (e := 2) (ps := #[(0, .int .i64 x21942.f2)]) (cells := [.int .i64 x21942.f2]) (xs := [x21942.f2]) (fun w => by kernel_rfl) rfl ⟨[.int .i64 x21942.f2], _, rfl, rfl, rfl⟩ hA hS (fun g22328 w hS => ?_) rfl rfl rfl
   refine hK _ [] _ rfl ?_
   refine dEff [0, 1, 2, 3, 6, 7, 8, 11] [4, 9] (by kernel_rfl) ⟨pu rfl rfl [(5, .slice A18770 n18771 c18772)] (fun ac hA => y_move hA rfl rfl) rfl rfl, pu rfl rfl [(11, .pointer (some ⟨g21945, 0, none⟩))] (fun ac hA => y_fab fa37_0 hA rfl rfl) rfl rfl, pu rfl rfl [(22, .pointer (some ⟨g21945, 0, none⟩))] (fun ac hA => y_ld Tryz.underlying34 (hS.cell 1 rfl 0 _ rfl) hA rfl rfl rfl) rfl rfl, pu rfl rfl [(23, .int .u64 x21942.f0)] (fun ac hA => (rv_i h22179 (r_convI Tryz.underlying34 Tryz.underlying2 rfl (hA.ev rfl)) : RunV _ _ _ _ (.int .i64 x22178))) rfl rfl, pu rfl rfl [(6, .slice A18774 n18775 c18776)] (fun ac hA => y_move hA rfl rfl) rfl rfl, pu rfl rfl [(11, .pointer (some ⟨g21945, 0, none⟩))] (fun ac hA => y_fab fa37_1 hA rfl rfl) rfl rfl, pu rfl rfl [(28, .pointer (some ⟨g21945, 1, none⟩))] (fun ac hA => y_ld Tryz.underlying3 (hS.cell 1 rfl 1 _ rfl) hA rfl rfl rfl) rfl rfl, pu rfl rfl [(7, .slice A18778 n18779 c18780)] (fun ac hA => y_move hA rfl rfl) rfl rfl, trivial⟩ (by kernel_rfl) (by kernel_rfl) ⟨?_, ?_, trivial⟩
   ·refine ef rfl [(24, .int .i64 x22178)] (fun ac hA K hK => ?_) rfl rfl
    refine z_bsl (d := (kI .i64)) (e := 2) (ps := #[(0, .int .i64 x22178)]) (cells := [.int .i64 x22178]) (xs := [x22178]) (fun w => by kernel_rfl) rfl ⟨[.int .i64 x22178], _, rfl, rfl, rfl⟩ hA hS (fun g22329 w hS => ?_) rfl rfl rfl
    refine hK _ [] _ rfl ?_
    refine dEff [0, 6, 7, 8, 11] [5, 9] (by kernel_rfl) ⟨pu rfl rfl [(5, .slice A18770 n18771 c18772)] (fun ac hA => y_move hA rfl rfl) rfl rfl, pu rfl rfl [(6, .slice A18774 n18775 c18776)] (fun ac hA => y_move hA rfl rfl) rfl rfl, pu rfl rfl [(11, .pointer (some ⟨g21945, 0, none⟩))] (fun ac hA => y_fab fa37_1 hA rfl rfl) rfl rfl, pu rfl rfl [(28, .pointer (some ⟨g21945, 1, none⟩))] (fun ac hA => y_ld Tryz.underlying3 (hS.cell 2 rfl 1 _ rfl) hA rfl rfl rfl) rfl rfl, pu rfl rfl [(7, .slice A18778 n18779 c18780)] (fun ac hA => y_move hA rfl rfl) rfl rfl, trivial⟩ (by kernel_rfl) (by kernel_rfl) ⟨?_, ?_, trivial⟩
    ·refine ef rfl [(21, .slice A18770 n18771 c18772), (25, .slice (some ⟨g22329, 0, none⟩) 1 1)] (fun ac hA K hK => ?_) rfl rfl
     obtain ⟨h22330, hF⟩ := chk_some hF
     have hr := hS.rd 0 rfl
     refine z_app 4 inf2 Tryz.underlying39 hA hS hr.1 hr.2.1 h22330 rfl (fun A22331 n22332 c22333 w hS => ?_) rfl rfl rfl rfl rfl rfl
     refine hK _ [] _ rfl ?_
     refine dEff [6, 7, 8, 11] [9] (by kernel_rfl) ⟨pu rfl rfl [(6, .slice A18774 n18775 c18776)] (fun ac hA => y_move hA rfl rfl) rfl rfl, pu rfl rfl [(11, .pointer (some ⟨g21945, 0, none⟩))] (fun ac hA => y_fab fa37_1 hA rfl rfl) rfl rfl, pu rfl rfl [(28, .pointer (some ⟨g21945, 1, none⟩))] (fun ac hA => y_ld Tryz.underlying3 (hS.cell 3 rfl 1 _ rfl) hA rfl rfl rfl) rfl rfl, pu rfl rfl [(7, .slice A18778 n18779 c18780)] (fun ac hA => y_move hA rfl rfl) rfl rfl, trivial⟩ (by kernel_rfl) (by kernel_rfl) ⟨ef rfl [(29, .int .i64 x21942.f1)] (fun ac hA K hK => ?_) rfl rfl, trivial⟩
     refine z_bsl (d := (kI .i64)) (e := 2) (ps := #[(0, .int .i64 x21942.f1)]) (cells := [.int .i64 x21942.f1]) (xs := [x21942.f1]) (fun w => by kernel_rfl) rfl ⟨[.int .i64 x21942.f1], _, rfl, rfl, rfl⟩ hA hS (fun g22334 w hS => ?_) rfl rfl rfl
     refine hK _ [] _ rfl ?_
     refine dEff [6, 11] [10] (by kernel_rfl) ⟨pu rfl rfl [(6, .slice A18774 n18775 c18776)] (fun ac hA => y_move hA rfl rfl) rfl rfl, pu rfl rfl [(7, .slice A18778 n18779 c18780)] (fun ac hA => y_move hA rfl rfl) rfl rfl, trivial⟩ (by kernel_rfl) (by kernel_rfl) ⟨ef rfl [(27, .slice A18774 n18775 c18776), (30, .slice (some ⟨g22334, 0, none⟩) 1 1)] (fun ac hA K hK => ?_) rfl rfl, trivial⟩
     obtain ⟨h22335, hF⟩ := chk_some hF
     have hr := hS.rd 0 rfl
     refine z_app 6 inf2 Tryz.underlying39 hA hS hr.1 hr.2.1 h22335 rfl (fun A22336 n22337 c22338 w hS => ?_) rfl rfl rfl rfl rfl rfl
     refine hK _ [] _ rfl ?_
     refine dEff [11] [15] (by kernel_rfl) ⟨pu rfl rfl [(7, .slice A18778 n18779 c18780)] (fun ac hA => y_move hA rfl rfl) rfl rfl, trivial⟩ (by kernel_rfl) (by kernel_rfl) ⟨ef rfl [(32, .slice A18778 n18779 c18780), (35, .slice (some ⟨g22328, 0, none⟩) 1 1)] (fun ac hA K hK => ?_) rfl rfl, trivial⟩
     obtain ⟨h22339, hF⟩ := chk_some hF
     have hr := hS.rd 4 rfl
     refine z_app 7 inf2 Tryz.underlying39 hA hS hr.1 hr.2.1 h22339 rfl (fun A22340 n22341 c22342 w hS => ?_) rfl rfl rfl rfl rfl rfl
     refine hK _ [(16, .slice A22331 n22332 c22333), (17, .slice A22336 n22337 c22338), (18, .slice A22340 n22341 c22342)] _ rfl ?_
     refine dEnd [16, 17, 18] (by kernel_rfl) ⟨pu rfl rfl [(26, .slice A22331 n22332 c22333)] (fun ac hA => y_assign hA rfl rfl) rfl rfl, pu rfl rfl [(31, .slice A22336 n22337 c22338)] (fun ac hA => y_assign hA rfl rfl) rfl rfl, pu rfl rfl [(36, .slice A22340 n22341 c22342)] (fun ac hA => y_assign hA rfl rfl) rfl rfl, trivial⟩ ⟨by kernel_rfl, by kernel_rfl⟩ [(0, .slice A0 n0 c0), (5, .slice A22331 n22332 c22333), (6, .slice A22336 n22337 c22338), (7, .slice A22340 n22341 c22342), (8, .slice A18782 n18783 c18784), (9, .slice A18786 n18787 c18788), (11, .pointer (some ⟨g21945, 0, none⟩)), (15, .slice A1 n1 c1), (16, .int .i64 (a1.length : Int)), (17, .int .i64 x18789)] rfl (fun ac hA => ?_)
     replace hS := hS.drop 2
     replace hS := hS.drop 3
     replace hS := hS.drop 3
     replace hS := hS.pk 7
     replace hS := hS.pk 7
     replace hS := hS.pk 7
     replace hS := hS.pk 3
     replace hS := hS.pk 4
     replace hS := hS.pk 5
     replace hS := hS.pk 7
     replace hS := hS.pk 7
     exact hj1 (l18769 ++ [x22178]) hF A22331 n22332 c22333 A22336 n22337 c22338 A22340 n22341 c22342 ac w (hA.sub _ rfl) hS
    ·refine ef rfl [(29, .int .i64 x21942.f1)] (fun ac hA K hK => ?_) rfl rfl
     refine z_bsl (d := (kI .i64)) (e := 2) (ps := #[(0, .int .i64 x21942.f1)]) (cells := [.int .i64 x21942.f1]) (xs := [x21942.f1]) (fun w => by kernel_rfl) rfl ⟨[.int .i64 x21942.f1], _, rfl, rfl, rfl⟩ hA hS (fun g22343 w hS => ?_) rfl rfl rfl
     refine hK _ [] _ rfl ?_
     refine dEff [0, 6, 11] [5] (by kernel_rfl) ⟨pu rfl rfl [(5, .slice A18770 n18771 c18772)] (fun ac hA => y_move hA rfl rfl) rfl rfl, pu rfl rfl [(6, .slice A18774 n18775 c18776)] (fun ac hA => y_move hA rfl rfl) rfl rfl, pu rfl rfl [(7, .slice A18778 n18779 c18780)] (fun ac hA => y_move hA rfl rfl) rfl rfl, trivial⟩ (by kernel_rfl) (by kernel_rfl) ⟨ef rfl [(21, .slice A18770 n18771 c18772), (25, .slice (some ⟨g22329, 0, none⟩) 1 1)] (fun ac hA K hK => ?_) rfl rfl, trivial⟩
     obtain ⟨h22344, hF⟩ := chk_some hF
     have hr := hS.rd 1 rfl
     refine z_app 5 inf2 Tryz.underlying39 hA hS hr.1 hr.2.1 h22344 rfl (fun A22345 n22346 c22347 w hS => ?_) rfl rfl rfl rfl rfl rfl
     refine hK _ [] _ rfl ?_
     refine dEff [6, 11] [10] (by kernel_rfl) ⟨pu rfl rfl [(6, .slice A18774 n18775 c18776)] (fun ac hA => y_move hA rfl rfl) rfl rfl, pu rfl rfl [(7, .slice A18778 n18779 c18780)] (fun ac hA => y_move hA rfl rfl) rfl rfl, trivial⟩ (by kernel_rfl) (by kernel_rfl) ⟨ef rfl [(27, .slice A18774 n18775 c18776), (30, .slice (some ⟨g22343, 0, none⟩) 1 1)] (fun ac hA K hK => ?_) rfl rfl, trivial⟩
     obtain ⟨h22348, hF⟩ := chk_some hF
     have hr := hS.rd 1 rfl
     refine z_app 6 inf2 Tryz.underlying39 hA hS hr.1 hr.2.1 h22348 rfl (fun A22349 n22350 c22351 w hS => ?_) rfl rfl rfl rfl rfl rfl
     refine hK _ [] _ rfl ?_
     refine dEff [11] [15] (by kernel_rfl) ⟨pu rfl rfl [(7, .slice A18778 n18779 c18780)] (fun ac hA => y_move hA rfl rfl) rfl rfl, trivial⟩ (by kernel_rfl) (by kernel_rfl) ⟨ef rfl [(32, .slice A18778 n18779 c18780), (35, .slice (some ⟨g22328, 0, none⟩) 1 1)] (fun ac hA K hK => ?_) rfl rfl, trivial⟩
     obtain ⟨h22352, hF⟩ := chk_some hF
     have hr := hS.rd 4 rfl
     refine z_app 7 inf2 Tryz.underlying39 hA hS hr.1 hr.2.1 h22352 rfl (fun A22353 n22354 c22355 w hS => ?_) rfl rfl rfl rfl rfl rfl
     refine hK _ [(16, .slice A22345 n22346 c22347), (17, .slice A22349 n22350 c22351), (18, .slice A22353 n22354 c22355)] _ rfl ?_
     refine dEnd [16, 17, 18] (by kernel_rfl) ⟨pu rfl rfl [(26, .slice A22345 n22346 c22347)] (fun ac hA => y_assign hA rfl rfl) rfl rfl, pu rfl rfl [(31, .slice A22349 n22350 c22351)] (fun ac hA => y_assign hA rfl rfl) rfl rfl, pu rfl rfl [(36, .slice A22353 n22354 c22355)] (fun ac hA => y_assign hA rfl rfl) rfl rfl, trivial⟩ ⟨by kernel_rfl, by kernel_rfl⟩ [(0, .slice A0 n0 c0), (5, .slice A22345 n22346 c22347), (6, .slice A22349 n22350 c22351), (7, .slice A22353 n22354 c22355), (8, .slice A18782 n18783 c18784), (9, .slice A18786 n18787 c18788), (11, .pointer (some ⟨g21945, 0, none⟩)), (15, .slice A1 n1 c1), (16, .int .i64 (a1.length : Int)), (17, .int .i64 x18789)] rfl (fun ac hA => ?_)
     replace hS := hS.drop 3
     replace hS := hS.drop 3
     replace hS := hS.drop 3
     replace hS := hS.pk 7
     replace hS := hS.pk 7
     replace hS := hS.pk 7
     replace hS := hS.pk 3
     replace hS := hS.pk 4
     replace hS := hS.pk 5
     replace hS := hS.pk 7
     replace hS := hS.pk 7
     exact hj1 (l18769 ++ [x22178]) hF A22345 n22346 c22347 A22349 n22350 c22351 A22353 n22354 c22355 ac w (hA.sub _ rfl) hS
   ·refine ef rfl [(29, .int .i64 x21942.f1)] (fun ac hA K hK => ?_) rfl rfl
    refine z_bsl (d := (kI .i64)) (e := 2) (ps := #[(0, .int .i64 x21942.f1)]) (cells := [.int .i64 x21942.f1]) (xs := [x21942.f1]) (fun w => by kernel_rfl) rfl ⟨[.int .i64 x21942.f1], _, rfl, rfl, rfl⟩ hA hS (fun g22356 w hS => ?_) rfl rfl rfl
    refine hK _ [] _ rfl ?_
    refine dEff [0, 1, 2, 3, 6, 11] [4] (by kernel_rfl) ⟨pu rfl rfl [(5, .slice A18770 n18771 c18772)] (fun ac hA => y_move hA rfl rfl) rfl rfl, pu rfl rfl [(11, .pointer (some ⟨g21945, 0, none⟩))] (fun ac hA => y_fab fa37_0 hA rfl rfl) rfl rfl, pu rfl rfl [(22, .pointer (some ⟨g21945, 0, none⟩))] (fun ac hA => y_ld Tryz.underlying34 (hS.cell 2 rfl 0 _ rfl) hA rfl rfl rfl) rfl rfl, pu rfl rfl [(23, .int .u64 x21942.f0)] (fun ac hA => (rv_i h22179 (r_convI Tryz.underlying34 Tryz.underlying2 rfl (hA.ev rfl)) : RunV _ _ _ _ (.int .i64 x22178))) rfl rfl, pu rfl rfl [(6, .slice A18774 n18775 c18776)] (fun ac hA => y_move hA rfl rfl) rfl rfl, pu rfl rfl [(7, .slice A18778 n18779 c18780)] (fun ac hA => y_move hA rfl rfl) rfl rfl, trivial⟩ (by kernel_rfl) (by kernel_rfl) ⟨ef rfl [(24, .int .i64 x22178)] (fun ac hA K hK => ?_) rfl rfl, trivial⟩
    refine z_bsl (d := (kI .i64)) (e := 2) (ps := #[(0, .int .i64 x22178)]) (cells := [.int .i64 x22178]) (xs := [x22178]) (fun w => by kernel_rfl) rfl ⟨[.int .i64 x22178], _, rfl, rfl, rfl⟩ hA hS (fun g22357 w hS => ?_) rfl rfl rfl
    refine hK _ [] _ rfl ?_
    refine dEff [0, 6, 11] [5] (by kernel_rfl) ⟨pu rfl rfl [(5, .slice A18770 n18771 c18772)] (fun ac hA => y_move hA rfl rfl) rfl rfl, pu rfl rfl [(6, .slice A18774 n18775 c18776)] (fun ac hA => y_move hA rfl rfl) rfl rfl, pu rfl rfl [(7, .slice A18778 n18779 c18780)] (fun ac hA => y_move hA rfl rfl) rfl rfl, trivial⟩ (by kernel_rfl) (by kernel_rfl) ⟨ef rfl [(21, .slice A18770 n18771 c18772), (25, .slice (some ⟨g22357, 0, none⟩) 1 1)] (fun ac hA K hK => ?_) rfl rfl, trivial⟩
    obtain ⟨h22358, hF⟩ := chk_some hF
    have hr := hS.rd 0 rfl
    refine z_app 5 inf2 Tryz.underlying39 hA hS hr.1 hr.2.1 h22358 rfl (fun A22359 n22360 c22361 w hS => ?_) rfl rfl rfl rfl rfl rfl
    refine hK _ [] _ rfl ?_
    refine dEff [6, 11] [10] (by kernel_rfl) ⟨pu rfl rfl [(6, .slice A18774 n18775 c18776)] (fun ac hA => y_move hA rfl rfl) rfl rfl, pu rfl rfl [(7, .slice A18778 n18779 c18780)] (fun ac hA => y_move hA rfl rfl) rfl rfl, trivial⟩ (by kernel_rfl) (by kernel_rfl) ⟨ef rfl [(27, .slice A18774 n18775 c18776), (30, .slice (some ⟨g22356, 0, none⟩) 1 1)] (fun ac hA K hK => ?_) rfl rfl, trivial⟩
    obtain ⟨h22362, hF⟩ := chk_some hF
    have hr := hS.rd 2 rfl
    refine z_app 6 inf2 Tryz.underlying39 hA hS hr.1 hr.2.1 h22362 rfl (fun A22363 n22364 c22365 w hS => ?_) rfl rfl rfl rfl rfl rfl
    refine hK _ [] _ rfl ?_
    refine dEff [11] [15] (by kernel_rfl) ⟨pu rfl rfl [(7, .slice A18778 n18779 c18780)] (fun ac hA => y_move hA rfl rfl) rfl rfl, trivial⟩ (by kernel_rfl) (by kernel_rfl) ⟨ef rfl [(32, .slice A18778 n18779 c18780), (35, .slice (some ⟨g22328, 0, none⟩) 1 1)] (fun ac hA K hK => ?_) rfl rfl, trivial⟩
    obtain ⟨h22366, hF⟩ := chk_some hF
    have hr := hS.rd 4 rfl
    refine z_app 7 inf2 Tryz.underlying39 hA hS hr.1 hr.2.1 h22366 rfl (fun A22367 n22368 c22369 w hS => ?_) rfl rfl rfl rfl rfl rfl
    refine hK _ [(16, .slice A22359 n22360 c22361), (17, .slice A22363 n22364 c22365), (18, .slice A22367 n22368 c22369)] _ rfl ?_
    refine dEnd [16, 17, 18] (by kernel_rfl) ⟨pu rfl rfl [(26, .slice A22359 n22360 c22361)] (fun ac hA => y_assign hA rfl rfl) rfl rfl, pu rfl rfl [(31, .slice A22363 n22364 c22365)] (fun ac hA => y_assign hA rfl rfl) rfl rfl, pu rfl rfl [(36, .slice A22367 n22368 c22369)] (fun ac hA => y_assign hA rfl rfl) rfl rfl, trivial⟩ ⟨by kernel_rfl, by kernel_rfl⟩ [(0, .slice A0 n0 c0), (5, .slice A22359 n22360 c22361), (6, .slice A22363 n22364 c22365), (7, .slice A22367 n22368 c22369), (8, .slice A18782 n18783 c18784), (9, .slice A18786 n18787 c18788), (11, .pointer (some ⟨g21945, 0, none⟩)), (15, .slice A1 n1 c1), (16, .int .i64 (a1.length : Int)), (17, .int .i64 x18789)] rfl (fun ac hA => ?_)
    replace hS := hS.drop 3
    replace hS := hS.drop 3
    replace hS := hS.drop 3
    replace hS := hS.pk 7
    replace hS := hS.pk 7
    replace hS := hS.pk 7
    replace hS := hS.pk 3
    replace hS := hS.pk 4
    replace hS := hS.pk 5
    replace hS := hS.pk 7
    replace hS := hS.pk 7
    exact hj1 (l18769 ++ [x22178]) hF A22359 n22360 c22361 A22363 n22364 c22365 A22367 n22368 c22369 ac w (hA.sub _ rfl) hS
 replace hF := iff' hb20604 hF
 refine wp_exit ?_
 cases hF
 exact hx20600_0 l18769 l18773 l18777 l18781 l18785 (T20600_ _ rfl) A18770 n18771 c18772 A18774 n18775 c18776 A18778 n18779 c18780 A18782 n18783 c18784 A18786 n18787 c18788 ac w (hA.sub _ rfl) hS
end Go.Proofs.YthokgnonmcgkcaaGreatDoor.M
namespace Go.Proofs.YthokgnonmcgkcaaGreatDoor.M
open Go Go.RowKit Go.Proofs.YthokgnonmcgkcaaGreatDoor.E
set_option linter.unusedVariables false
set_option linter.unusedSimpArgs false
noncomputable def r06_Lay_b1 (l908 : (List Int)) (l912 : (List Int)) (l916 : (List Int)) (l920 : (List (List UInt8))) (l924 : (List Nat)) : Option ((List Int)) :=
  (r03_Ints l908).bind fun y929 => ((r03_Text (bts y929)).bind fun y934 => ((r03_Ints l912).bind fun y940 => ((r03_Text (bts y940)).bind fun y945 => (chk (y934.length + y945.length ≤ 140737488355328 / 1) ((r03_Ints l916).bind fun y955 => ((r03_Text (bts y955)).bind fun y960 => (chk ((y934 ++ y945).length + y960.length ≤ 140737488355328 / 1) ((r03_Texts l920).bind fun y970 => ((r03_Text (bts y970)).bind fun y975 => (chk (((y934 ++ y945) ++ y960).length + y975.length ≤ 140737488355328 / 1) ((r03_Reals l924).bind fun y985 => ((r03_Text (bts y985)).bind fun y990 => (chk ((((y934 ++ y945) ++ y960) ++ y975).length + y990.length ≤ 140737488355328 / 1) ((r04_Lay 101 ((((y934 ++ y945) ++ y960) ++ y975) ++ y990)).bind fun y1000 => (some y1000)))))))))))))))
noncomputable def r06_Lay_x1_0 (l1198 : (List Int)) (l1202 : (List Int)) (l1206 : (List Int)) (l1210 : (List (List UInt8))) (l1214 : (List Nat)) : Option ((List Int)) :=
  r06_Lay_b1 l1198 l1202 l1206 l1210 l1214
noncomputable def r06_Lay_l1 (a0 : (List S37)) (l1111 : (List Int)) (l1115 : (List Int)) (l1119 : (List Int)) (l1123 : (List (List UInt8))) (l1127 : (List Nat)) (x1131 : Int) : Option (((List Int) × (List Int) × (List Int) × (List (List UInt8)) × (List Nat) × Int) ⊕ (((List Int) × (List Int) × (List Int) × (List (List UInt8)) × (List Nat)))) :=
  if (decide (x1131 < (a0.length : Int))) = true then ((at_ a0 x1131).bind fun x1225 => (ltt (IntKind.i64.wrap x1225.f0) fun x1228 => (chk (l1111.length + [x1228].length ≤ 140737488355328 / 8) (chk (l1115.length + [x1225.f1].length ≤ 140737488355328 / 8) (chk (l1119.length + [x1225.f2].length ≤ 140737488355328 / 8) (chk (l1123.length + [x1225.f3].length ≤ 140737488355328 / 16) (chk (l1127.length + [x1225.f4].length ≤ 140737488355328 / 8) (ltt (IntKind.i64.wrap (x1131 + 1)) fun x1262 => (some (.inl (l1111 ++ [x1228], l1115 ++ [x1225.f1], l1119 ++ [x1225.f2], l1123 ++ [x1225.f3], l1127 ++ [x1225.f4], x1262))))))))))) else (some (.inr (l1111, l1115, l1119, l1123, l1127)))
noncomputable def r06_Lay (a0 : (List S37)) : Option ((List Int)) :=
  (loop (fun s => r06_Lay_l1 a0 s.1 s.2.1 s.2.2.1 s.2.2.2.1 s.2.2.2.2.1 s.2.2.2.2.2) ([], [], [], [], [], 0)).bind fun t => r06_Lay_x1_0 t.1 t.2.1 t.2.2.1 t.2.2.2.1 t.2.2.2.2
end Go.Proofs.YthokgnonmcgkcaaGreatDoor.M
namespace Go.Proofs.YthokgnonmcgkcaaGreatDoor.M
open Go Go.RowKit Go.Proofs.YthokgnonmcgkcaaGreatDoor.E
set_option linter.unusedVariables false
set_option maxRecDepth 100000
set_option maxHeartbeats 4000000
set_option linter.unusedSimpArgs false
theorem F_r06_Lay {r : World} {L : List HP} {w : World} (a0 : (List S37)) (A0 : Option Addr) (n0 : Nat) (c0 : Nat) {y : ((List Int))} (hF : r06_Lay a0 = some y) (ha0 : RdL L k37 A0 n0 c0 a0) (hS : SH r (L) w) :
  Ret Tryz.prog 8 #[.slice A0 n0 c0] w fun v w' => ∃ (B0 : Option Addr) (m0 : Nat) (d0 : Nat), v = .slice B0 m0 d0 ∧ SH r (own (kI .u8) 5 B0 m0 d0 y :: L) w' := by
 refine enter Tryz.func8 rfl Tryz.ntmps8 [(0, .slice A0 n0 c0)] rfl (by simp) ?_
 intro ac hA Qf hQ hQn
 unfold r06_Lay at hF
 refine ws fun K101 hK101 => ?_
 refine x_m hA rfl fun ac hA => ?_
 refine wn (hK101 _ _ ?_)
 refine ws fun K102 hK102 => ?_
 refine x_m hA rfl fun ac hA => ?_
 refine x_m hA rfl fun ac hA => ?_
 refine x_m hA rfl fun ac hA => ?_
 refine wn (hK102 _ _ ?_)
 refine ws fun K103 hK103 => ?_
 refine x_m hA rfl fun ac hA => ?_
 refine wn (hK103 _ _ ?_)
 refine ws fun K104 hK104 => ?_
 refine x_m hA rfl fun ac hA => ?_
 refine wn (hK104 _ _ ?_)
 refine wp_seq_k fun K105 hK105 => ?_
 refine ws fun K647 hK647 => ?_
 refine x_m hA rfl fun ac hA => ?_
 refine wn (hK647 _ _ ?_)
 refine wp_block_k fun Kx648 hKx648 => ?_
 have hb1 : ∀ (l908 : (List Int)) (l912 : (List Int)) (l916 : (List Int)) (l920 : (List (List UInt8))) (l924 : (List Nat)), r06_Lay_b1 l908 l912 l916 l920 l924 = some y → ∀ (A909 : Option Addr) (n910 : Nat) (c911 : Nat) (A913 : Option Addr) (n914 : Nat) (c915 : Nat) (A917 : Option Addr) (n918 : Nat) (c919 : Nat) (A921 : Option Addr) (n922 : Nat) (c923 : Nat) (A925 : Option Addr) (n926 : Nat) (c927 : Nat) (ac : Act) (w : World), FR 87 [] ac [(3, .slice A909 n910 c911), (4, .slice A913 n914 c915), (5, .slice A917 n918 c919), (6, .slice A921 n922 c923), (7, .slice A925 n926 c927)] → SH r (own (kI .i64) 2 A909 n910 c911 l908 :: own (kI .i64) 2 A913 n914 c915 l912 :: own (kI .i64) 2 A917 n918 c919 l916 :: own kS 9 A921 n922 c923 l920 :: own kF 35 A925 n926 c927 l924 :: L) w → Kx648 ac w := by
  intro l908 l912 l916 l920 l924 hF A909 n910 c911 A913 n914 c915 A917 n918 c919 A921 n922 c923 A925 n926 c927 ac w hA hS
  unfold r06_Lay_b1 at hF
  refine hKx648 _ _ ?_
  refine hK105 _ _ ?_
  refine ws fun K928 hK928 => ?_
  refine x_m hA rfl fun ac hA => ?_
  obtain ⟨y929, h930, hF⟩ := bnd hF
  refine x_call en27 hA (F_r03_Ints (L := own (kI .i64) 2 A909 n910 c911 l908 :: own (kI .i64) 2 A913 n914 c915 l912 :: own (kI .i64) 2 A917 n918 c919 l916 :: own kS 9 A921 n922 c923 l920 :: own kF 35 A925 n926 c927 l924 :: L) l908 A909 n910 c911 h930 (RdL.own 0 rfl (hS.dropN 0)) hS) (fun v ac w hR hA => ?_) rfl rfl rfl rfl rfl
  obtain ⟨B931, m932, d933, rfl, hS⟩ := hR
  refine x_b2s Tryz.underlying22 Tryz.underlying5 Tryz.underlying9 (hS.rd 0 rfl) hA (fun ac hA => ?_) rfl rfl rfl rfl rfl
  obtain ⟨y934, h935, hF⟩ := bnd hF
  refine x_call en26 hA (F_r03_Text (L := own (kI .u8) 5 B931 m932 d933 y929 :: own (kI .i64) 2 A909 n910 c911 l908 :: own (kI .i64) 2 A913 n914 c915 l912 :: own (kI .i64) 2 A917 n918 c919 l916 :: own kS 9 A921 n922 c923 l920 :: own kF 35 A925 n926 c927 l924 :: L) (bts y929) h935 hS) (fun v ac w hR hA => ?_) rfl rfl rfl rfl rfl
  obtain ⟨B936, m937, d938, rfl, hS⟩ := hR
  refine x_m hA rfl fun ac hA => ?_
  refine wn (hK928 _ _ ?_)
  refine ws fun K939 hK939 => ?_
  refine x_m hA rfl fun ac hA => ?_
  refine x_m hA rfl fun ac hA => ?_
  obtain ⟨y940, h941, hF⟩ := bnd hF
  refine x_call en27 hA (F_r03_Ints (L := own (kI .u8) 5 B936 m937 d938 y934 :: own (kI .u8) 5 B931 m932 d933 y929 :: own (kI .i64) 2 A909 n910 c911 l908 :: own (kI .i64) 2 A913 n914 c915 l912 :: own (kI .i64) 2 A917 n918 c919 l916 :: own kS 9 A921 n922 c923 l920 :: own kF 35 A925 n926 c927 l924 :: L) l912 A913 n914 c915 h941 (RdL.own 3 rfl (hS.dropN 0)) hS) (fun v ac w hR hA => ?_) rfl rfl rfl rfl rfl
  obtain ⟨B942, m943, d944, rfl, hS⟩ := hR
  refine x_b2s Tryz.underlying22 Tryz.underlying5 Tryz.underlying9 (hS.rd 0 rfl) hA (fun ac hA => ?_) rfl rfl rfl rfl rfl
  obtain ⟨y945, h946, hF⟩ := bnd hF
  refine x_call en26 hA (F_r03_Text (L := own (kI .u8) 5 B942 m943 d944 y940 :: own (kI .u8) 5 B936 m937 d938 y934 :: own (kI .u8) 5 B931 m932 d933 y929 :: own (kI .i64) 2 A909 n910 c911 l908 :: own (kI .i64) 2 A913 n914 c915 l912 :: own (kI .i64) 2 A917 n918 c919 l916 :: own kS 9 A921 n922 c923 l920 :: own kF 35 A925 n926 c927 l924 :: L) (bts y940) h946 hS) (fun v ac w hR hA => ?_) rfl rfl rfl rfl rfl
  obtain ⟨B947, m948, d949, rfl, hS⟩ := hR
  obtain ⟨h950, hF⟩ := chk_some hF
  have hr := hS.rd 0 rfl
  refine x_app 2 inf5 Tryz.underlying22 hA hS hr.1 hr.2.1 h950 rfl (fun A951 n952 c953 ac w hS hA => ?_) rfl rfl rfl rfl rfl rfl rfl rfl rfl
  refine x_m hA rfl fun ac hA => ?_
  refine wn (hK939 _ _ ?_)
  refine ws fun K954 hK954 => ?_
  refine x_m hA rfl fun ac hA => ?_
  refine x_m hA rfl fun ac hA => ?_
  obtain ⟨y955, h956, hF⟩ := bnd hF
  refine x_call en27 hA (F_r03_Ints (L := own (kI .u8) 5 A951 n952 c953 (y934 ++ y945) :: own (kI .u8) 5 B947 m948 d949 y945 :: own (kI .u8) 5 B942 m943 d944 y940 :: own (kI .u8) 5 B931 m932 d933 y929 :: own (kI .i64) 2 A909 n910 c911 l908 :: own (kI .i64) 2 A913 n914 c915 l912 :: own (kI .i64) 2 A917 n918 c919 l916 :: own kS 9 A921 n922 c923 l920 :: own kF 35 A925 n926 c927 l924 :: L) l916 A917 n918 c919 h956 (RdL.own 6 rfl (hS.dropN 0)) hS) (fun v ac w hR hA => ?_) rfl rfl rfl rfl rfl
  obtain ⟨B957, m958, d959, rfl, hS⟩ := hR
  refine x_b2s Tryz.underlying22 Tryz.underlying5 Tryz.underlying9 (hS.rd 0 rfl) hA (fun ac hA => ?_) rfl rfl rfl rfl rfl
  obtain ⟨y960, h961, hF⟩ := bnd hF
  refine x_call en26 hA (F_r03_Text (L := own (kI .u8) 5 B957 m958 d959 y955 :: own (kI .u8) 5 A951 n952 c953 (y934 ++ y945) :: own (kI .u8) 5 B947 m948 d949 y945 :: own (kI .u8) 5 B942 m943 d944 y940 :: own (kI .u8) 5 B931 m932 d933 y929 :: own (kI .i64) 2 A909 n910 c911 l908 :: own (kI .i64) 2 A913 n914 c915 l912 :: own (kI .i64) 2 A917 n918 c919 l916 :: own kS 9 A921 n922 c923 l920 :: own kF 35 A925 n926 c927 l924 :: L) (bts y955) h961 hS) (fun v ac w hR hA => ?_) rfl rfl rfl rfl rfl
  obtain ⟨B962, m963, d964, rfl, hS⟩ := hR
  obtain ⟨h965, hF⟩ := chk_some hF
  have hr := hS.rd 0 rfl
  refine x_app 2 inf5 Tryz.underlying22 hA hS hr.1 hr.2.1 h965 rfl (fun A966 n967 c968 ac w hS hA => ?_) rfl rfl rfl rfl rfl rfl rfl rfl rfl
  refine x_m hA rfl fun ac hA => ?_
  refine wn (hK954 _ _ ?_)
  refine ws fun K969 hK969 => ?_
  refine x_m hA rfl fun ac hA => ?_
  refine x_m hA rfl fun ac hA => ?_
  obtain ⟨y970, h971, hF⟩ := bnd hF
  refine x_call en28 hA (F_r03_Texts (L := own (kI .u8) 5 A966 n967 c968 ((y934 ++ y945) ++ y960) :: own (kI .u8) 5 B962 m963 d964 y960 :: own (kI .u8) 5 B957 m958 d959 y955 :: own (kI .u8) 5 B947 m948 d949 y945 :: own (kI .u8) 5 B942 m943 d944 y940 :: own (kI .u8) 5 B931 m932 d933 y929 :: own (kI .i64) 2 A909 n910 c911 l908 :: own (kI .i64) 2 A913 n914 c915 l912 :: own (kI .i64) 2 A917 n918 c919 l916 :: own kS 9 A921 n922 c923 l920 :: own kF 35 A925 n926 c927 l924 :: L) l920 A921 n922 c923 h971 (RdL.own 9 rfl (hS.dropN 0)) hS) (fun v ac w hR hA => ?_) rfl rfl rfl rfl rfl
  obtain ⟨B972, m973, d974, rfl, hS⟩ := hR
  refine x_b2s Tryz.underlying22 Tryz.underlying5 Tryz.underlying9 (hS.rd 0 rfl) hA (fun ac hA => ?_) rfl rfl rfl rfl rfl
  obtain ⟨y975, h976, hF⟩ := bnd hF
  refine x_call en26 hA (F_r03_Text (L := own (kI .u8) 5 B972 m973 d974 y970 :: own (kI .u8) 5 A966 n967 c968 ((y934 ++ y945) ++ y960) :: own (kI .u8) 5 B962 m963 d964 y960 :: own (kI .u8) 5 B957 m958 d959 y955 :: own (kI .u8) 5 B947 m948 d949 y945 :: own (kI .u8) 5 B942 m943 d944 y940 :: own (kI .u8) 5 B931 m932 d933 y929 :: own (kI .i64) 2 A909 n910 c911 l908 :: own (kI .i64) 2 A913 n914 c915 l912 :: own (kI .i64) 2 A917 n918 c919 l916 :: own kS 9 A921 n922 c923 l920 :: own kF 35 A925 n926 c927 l924 :: L) (bts y970) h976 hS) (fun v ac w hR hA => ?_) rfl rfl rfl rfl rfl
  obtain ⟨B977, m978, d979, rfl, hS⟩ := hR
  obtain ⟨h980, hF⟩ := chk_some hF
  have hr := hS.rd 0 rfl
  refine x_app 2 inf5 Tryz.underlying22 hA hS hr.1 hr.2.1 h980 rfl (fun A981 n982 c983 ac w hS hA => ?_) rfl rfl rfl rfl rfl rfl rfl rfl rfl
  refine x_m hA rfl fun ac hA => ?_
  refine wn (hK969 _ _ ?_)
  refine ws fun K984 hK984 => ?_
  refine x_m hA rfl fun ac hA => ?_
  refine x_m hA rfl fun ac hA => ?_
  obtain ⟨y985, h986, hF⟩ := bnd hF
  refine x_call en29 hA (F_r03_Reals (L := own (kI .u8) 5 A981 n982 c983 (((y934 ++ y945) ++ y960) ++ y975) :: own (kI .u8) 5 B977 m978 d979 y975 :: own (kI .u8) 5 B972 m973 d974 y970 :: own (kI .u8) 5 B962 m963 d964 y960 :: own (kI .u8) 5 B957 m958 d959 y955 :: own (kI .u8) 5 B947 m948 d949 y945 :: own (kI .u8) 5 B942 m943 d944 y940 :: own (kI .u8) 5 B931 m932 d933 y929 :: own (kI .i64) 2 A909 n910 c911 l908 :: own (kI .i64) 2 A913 n914 c915 l912 :: own (kI .i64) 2 A917 n918 c919 l916 :: own kS 9 A921 n922 c923 l920 :: own kF 35 A925 n926 c927 l924 :: L) l924 A925 n926 c927 h986 (RdL.own 12 rfl (hS.dropN 0)) hS) (fun v ac w hR hA => ?_) rfl rfl rfl rfl rfl
  obtain ⟨B987, m988, d989, rfl, hS⟩ := hR
  refine x_b2s Tryz.underlying22 Tryz.underlying5 Tryz.underlying9 (hS.rd 0 rfl) hA (fun ac hA => ?_) rfl rfl rfl rfl rfl
  obtain ⟨y990, h991, hF⟩ := bnd hF
  refine x_call en26 hA (F_r03_Text (L := own (kI .u8) 5 B987 m988 d989 y985 :: own (kI .u8) 5 A981 n982 c983 (((y934 ++ y945) ++ y960) ++ y975) :: own (kI .u8) 5 B977 m978 d979 y975 :: own (kI .u8) 5 B972 m973 d974 y970 :: own (kI .u8) 5 B962 m963 d964 y960 :: own (kI .u8) 5 B957 m958 d959 y955 :: own (kI .u8) 5 B947 m948 d949 y945 :: own (kI .u8) 5 B942 m943 d944 y940 :: own (kI .u8) 5 B931 m932 d933 y929 :: own (kI .i64) 2 A909 n910 c911 l908 :: own (kI .i64) 2 A913 n914 c915 l912 :: own (kI .i64) 2 A917 n918 c919 l916 :: own kS 9 A921 n922 c923 l920 :: own kF 35 A925 n926 c927 l924 :: L) (bts y985) h991 hS) (fun v ac w hR hA => ?_) rfl rfl rfl rfl rfl
  obtain ⟨B992, m993, d994, rfl, hS⟩ := hR
  obtain ⟨h995, hF⟩ := chk_some hF
  have hr := hS.rd 0 rfl
  refine x_app 2 inf5 Tryz.underlying22 hA hS hr.1 hr.2.1 h995 rfl (fun A996 n997 c998 ac w hS hA => ?_) rfl rfl rfl rfl rfl rfl rfl rfl rfl
  refine x_m hA rfl fun ac hA => ?_
  refine wn (hK984 _ _ ?_)
  refine ws fun K999 hK999 => ?_
  refine x_m hA rfl fun ac hA => ?_
  obtain ⟨y1000, h1001, hF⟩ := bnd hF
  refine x_call en30 hA (F_r04_Lay (L := own (kI .u8) 5 A996 n997 c998 ((((y934 ++ y945) ++ y960) ++ y975) ++ y990) :: own (kI .u8) 5 B992 m993 d994 y990 :: own (kI .u8) 5 B987 m988 d989 y985 :: own (kI .u8) 5 B977 m978 d979 y975 :: own (kI .u8) 5 B972 m973 d974 y970 :: own (kI .u8) 5 B962 m963 d964 y960 :: own (kI .u8) 5 B957 m958 d959 y955 :: own (kI .u8) 5 B947 m948 d949 y945 :: own (kI .u8) 5 B942 m943 d944 y940 :: own (kI .u8) 5 B931 m932 d933 y929 :: own (kI .i64) 2 A909 n910 c911 l908 :: own (kI .i64) 2 A913 n914 c915 l912 :: own (kI .i64) 2 A917 n918 c919 l916 :: own kS 9 A921 n922 c923 l920 :: own kF 35 A925 n926 c927 l924 :: L) 101 ((((y934 ++ y945) ++ y960) ++ y975) ++ y990) A996 n997 c998 h1001 (RdL.own 0 rfl (hS.dropN 0)) hS) (fun v ac w hR hA => ?_) rfl rfl rfl rfl rfl
  obtain ⟨B1002, m1003, d1004, rfl, hS⟩ := hR
  refine x_m hA rfl fun ac hA => ?_
  refine wn (hK999 _ _ ?_)
  refine wp_ret ?_
  replace hS := hS.drop 1
  replace hS := hS.drop 1
  replace hS := hS.drop 1
  replace hS := hS.drop 1
  replace hS := hS.drop 1
  replace hS := hS.drop 1
  replace hS := hS.drop 1
  replace hS := hS.drop 1
  replace hS := hS.drop 1
  replace hS := hS.drop 1
  replace hS := hS.drop 1
  replace hS := hS.drop 1
  replace hS := hS.drop 1
  replace hS := hS.drop 1
  replace hS := hS.drop 1
  cases hF
  refine hQ _ _ ?_
  refine lv Tryz.results8 hA rfl ?_
  exact ⟨B1002, m1003, d1004, rfl, hS⟩
 obtain ⟨t1217, hl1217, hF⟩ := bnd hF
 have hx1217_0 : ∀ (l1198 : (List Int)) (l1202 : (List Int)) (l1206 : (List Int)) (l1210 : (List (List UInt8))) (l1214 : (List Nat)), (l1198, l1202, l1206, l1210, l1214) = t1217 → ∀ (A1199 : Option Addr) (n1200 : Nat) (c1201 : Nat) (A1203 : Option Addr) (n1204 : Nat) (c1205 : Nat) (A1207 : Option Addr) (n1208 : Nat) (c1209 : Nat) (A1211 : Option Addr) (n1212 : Nat) (c1213 : Nat) (A1215 : Option Addr) (n1216 : Nat) (c1217 : Nat) (ac : Act) (w : World), FR 87 [] ac [(3, .slice A1199 n1200 c1201), (4, .slice A1203 n1204 c1205), (5, .slice A1207 n1208 c1209), (6, .slice A1211 n1212 c1213), (7, .slice A1215 n1216 c1217)] → SH r (own (kI .i64) 2 A1199 n1200 c1201 l1198 :: own (kI .i64) 2 A1203 n1204 c1205 l1202 :: own (kI .i64) 2 A1207 n1208 c1209 l1206 :: own kS 9 A1211 n1212 c1213 l1210 :: own kF 35 A1215 n1216 c1217 l1214 :: L) w → Kx648 ac w := by
  intro l1198 l1202 l1206 l1210 l1214 ht A1199 n1200 c1201 A1203 n1204 c1205 A1207 n1208 c1209 A1211 n1212 c1213 A1215 n1216 c1217 ac w hA hS
  subst ht
  replace hF : r06_Lay_x1_0 l1198 l1202 l1206 l1210 l1214 = some y := hF
  unfold r06_Lay_x1_0 at hF
  exact hb1 l1198 l1202 l1206 l1210 l1214 hF A1199 n1200 c1201 A1203 n1204 c1205 A1207 n1208 c1209 A1211 n1212 c1213 A1215 n1216 c1217 ac w (hA.sub _ rfl) hS
 replace hS := SH.nil_own (d := (kI .i64)) (e := 2) hS
 replace hS := SH.nil_own (d := (kI .i64)) (e := 2) hS
 replace hS := SH.nil_own (d := (kI .i64)) (e := 2) hS
 replace hS := SH.nil_own (d := kS) (e := 9) hS
 replace hS := SH.nil_own (d := kF) (e := 35) hS
 replace hS := hS.pk 1
 replace hS := hS.pk 2
 replace hS := hS.pk 3
 replace hS := hS.pk 4
 refine wp_loop_fn hl1217 (fun s ac w => ∃ (A1112 : Option Addr) (n1113 : Nat) (c1114 : Nat) (A1116 : Option Addr) (n1117 : Nat) (c1118 : Nat) (A1120 : Option Addr) (n1121 : Nat) (c1122 : Nat) (A1124 : Option Addr) (n1125 : Nat) (c1126 : Nat) (A1128 : Option Addr) (n1129 : Nat) (c1130 : Nat), FR 87 [] ac [(0, .slice A0 n0 c0), (3, .slice A1112 n1113 c1114), (4, .slice A1116 n1117 c1118), (5, .slice A1120 n1121 c1122), (6, .slice A1124 n1125 c1126), (7, .slice A1128 n1129 c1130), (8, .int .i64 s.2.2.2.2.2)] ∧ SH r (own (kI .i64) 2 A1112 n1113 c1114 s.1 :: own (kI .i64) 2 A1116 n1117 c1118 s.2.1 :: own (kI .i64) 2 A1120 n1121 c1122 s.2.2.1 :: own kS 9 A1124 n1125 c1126 s.2.2.2.1 :: own kF 35 A1128 n1129 c1130 s.2.2.2.2.1 :: L) w) ⟨none, 0, 0, none, 0, 0, none, 0, 0, none, 0, 0, none, 0, 0, hA.sub _ rfl, hS⟩ ?_
 intro N1217 s1217 o1217 hF N1217_ T1217_ ac w hLab
 obtain ⟨l1111, l1115, l1119, l1123, l1127, x1131⟩ := s1217
 replace hF : r06_Lay_l1 a0 l1111 l1115 l1119 l1123 l1127 x1131 = some o1217 := hF
 unfold r06_Lay_l1 at hF
 try dsimp only at hLab
 obtain ⟨A1112, n1113, c1114, A1116, n1117, c1118, A1120, n1121, c1122, A1124, n1125, c1126, A1128, n1129, c1130, hA, hS⟩ := hLab
 refine wp_seq_k fun K1219 hK1219 => ?_
 refine ws fun K1220 hK1220 => ?_
 refine x_m hA rfl fun ac hA => ?_
 refine x_m hA rfl fun ac hA => ?_
 refine x_len Tryz.underlying23 (hS.rdl 5 ha0 rfl).2.1 hA (fun ac hA => ?_) rfl rfl rfl rfl rfl
 refine x_v hA (r_ltI rfl (hA.ev rfl) (hA.ev rfl)) rfl fun ac hA => ?_
 refine wn (hK1220 _ _ ?_)
 refine c_if hA rfl (fun hb1221 => ?_) fun hb1221 => ?_
 ·replace hF := ift hb1221 hF
  refine wp_skip ?_
  refine hK1219 _ _ ?_
  refine wp_seq_k fun K1222 hK1222 => ?_
  refine wp_block_k fun Kx1223 hKx1223 => ?_
  refine ws fun K1224 hK1224 => ?_
  refine x_m hA rfl fun ac hA => ?_
  refine x_m hA rfl fun ac hA => ?_
  refine x_m hA rfl fun ac hA => ?_
  obtain ⟨x1225, h1226, hF⟩ := bnd hF
  refine x_ia Tryz.underlying23 sz37 (hS.rdl 5 ha0 rfl) h1226 hA (fun ac hA => ?_) rfl rfl rfl rfl rfl rfl
  refine x_fae (m := x1131.toNat * 5) fa37_0 hA (fun ac hA => ?_) rfl rfl rfl rfl rfl
  obtain ⟨cs, hV, hc1227⟩ := el (hS.rdl 5 ha0 rfl) h1226
  obtain rfl := hV
  refine x_ld Tryz.underlying34 (hc1227 0 _ rfl) hA (fun ac hA => ?_) rfl rfl rfl rfl rfl rfl
  obtain ⟨x1228, h1229, hF⟩ := ltt_ hF
  refine x_v (v := .int .i64 x1228) hA (rv_i h1229 (r_convI Tryz.underlying34 Tryz.underlying2 rfl (hA.ev rfl))) rfl fun ac hA => ?_
  refine x_bsl (d := (kI .i64)) (e := 2) (ps := #[(0, .int .i64 x1228)]) (cells := [.int .i64 x1228]) (xs := [x1228]) (fun w => by kernel_rfl) rfl ⟨[.int .i64 x1228], _, rfl, rfl, rfl⟩ hA hS (fun g1230 ac w hS hA => ?_) rfl rfl rfl rfl rfl rfl
  obtain ⟨h1231, hF⟩ := chk_some hF
  have hr := hS.rd 0 rfl
  refine x_app 1 inf2 Tryz.underlying39 hA hS hr.1 hr.2.1 h1231 rfl (fun A1232 n1233 c1234 ac w hS hA => ?_) rfl rfl rfl rfl rfl rfl rfl rfl rfl
  refine x_m hA rfl fun ac hA => ?_
  refine wn (hK1224 _ _ ?_)
  refine ws fun K1235 hK1235 => ?_
  refine x_m hA rfl fun ac hA => ?_
  refine x_m hA rfl fun ac hA => ?_
  refine x_m hA rfl fun ac hA => ?_
  refine x_ia Tryz.underlying23 sz37 (hS.rdl 6 ha0 rfl) h1226 hA (fun ac hA => ?_) rfl rfl rfl rfl rfl rfl
  refine x_fae (m := x1131.toNat * 5) fa37_1 hA (fun ac hA => ?_) rfl rfl rfl rfl rfl
  obtain ⟨cs, hV, hc1236⟩ := el (hS.rdl 6 ha0 rfl) h1226
  obtain rfl := hV
  refine x_ld Tryz.underlying3 (hc1236 1 _ rfl) hA (fun ac hA => ?_) rfl rfl rfl rfl rfl rfl
  refine x_bsl (d := (kI .i64)) (e := 2) (ps := #[(0, .int .i64 x1225.f1)]) (cells := [.int .i64 x1225.f1]) (xs := [x1225.f1]) (fun w => by kernel_rfl) rfl ⟨[.int .i64 x1225.f1], _, rfl, rfl, rfl⟩ hA hS (fun g1237 ac w hS hA => ?_) rfl rfl rfl rfl rfl rfl
  obtain ⟨h1238, hF⟩ := chk_some hF
  have hr := hS.rd 0 rfl
  refine x_app 3 inf2 Tryz.underlying39 hA hS hr.1 hr.2.1 h1238 rfl (fun A1239 n1240 c1241 ac w hS hA => ?_) rfl rfl rfl rfl rfl rfl rfl rfl rfl
  refine x_m hA rfl fun ac hA => ?_
  refine wn (hK1235 _ _ ?_)
  refine ws fun K1242 hK1242 => ?_
  refine x_m hA rfl fun ac hA => ?_
  refine x_m hA rfl fun ac hA => ?_
  refine x_m hA rfl fun ac hA => ?_
  refine x_ia Tryz.underlying23 sz37 (hS.rdl 7 ha0 rfl) h1226 hA (fun ac hA => ?_) rfl rfl rfl rfl rfl rfl
  refine x_fae (m := x1131.toNat * 5) fa37_2 hA (fun ac hA => ?_) rfl rfl rfl rfl rfl
  obtain ⟨cs, hV, hc1243⟩ := el (hS.rdl 7 ha0 rfl) h1226
  obtain rfl := hV
  refine x_ld Tryz.underlying2 (hc1243 2 _ rfl) hA (fun ac hA => ?_) rfl rfl rfl rfl rfl rfl
  refine x_bsl (d := (kI .i64)) (e := 2) (ps := #[(0, .int .i64 x1225.f2)]) (cells := [.int .i64 x1225.f2]) (xs := [x1225.f2]) (fun w => by kernel_rfl) rfl ⟨[.int .i64 x1225.f2], _, rfl, rfl, rfl⟩ hA hS (fun g1244 ac w hS hA => ?_) rfl rfl rfl rfl rfl rfl
  obtain ⟨h1245, hF⟩ := chk_some hF
  have hr := hS.rd 0 rfl
  refine x_app 5 inf2 Tryz.underlying39 hA hS hr.1 hr.2.1 h1245 rfl (fun A1246 n1247 c1248 ac w hS hA => ?_) rfl rfl rfl rfl rfl rfl rfl rfl rfl
  refine x_m hA rfl fun ac hA => ?_
  refine wn (hK1242 _ _ ?_)
  refine ws fun K1249 hK1249 => ?_
  refine x_m hA rfl fun ac hA => ?_
  refine x_m hA rfl fun ac hA => ?_
  refine x_m hA rfl fun ac hA => ?_
  refine x_ia Tryz.underlying23 sz37 (hS.rdl 8 ha0 rfl) h1226 hA (fun ac hA => ?_) rfl rfl rfl rfl rfl rfl
  refine x_fae (m := x1131.toNat * 5) fa37_3 hA (fun ac hA => ?_) rfl rfl rfl rfl rfl
  obtain ⟨cs, hV, hc1250⟩ := el (hS.rdl 8 ha0 rfl) h1226
  obtain rfl := hV
  refine x_ld Tryz.underlying9 (hc1250 3 _ rfl) hA (fun ac hA => ?_) rfl rfl rfl rfl rfl rfl
  refine x_bsl (d := kS) (e := 9) (ps := #[(0, str x1225.f3)]) (cells := [str x1225.f3]) (xs := [x1225.f3]) (fun w => by kernel_rfl) rfl ⟨[str x1225.f3], _, rfl, rfl, rfl⟩ hA hS (fun g1251 ac w hS hA => ?_) rfl rfl rfl rfl rfl rfl
  obtain ⟨h1252, hF⟩ := chk_some hF
  have hr := hS.rd 0 rfl
  refine x_app 7 inf9 Tryz.underlying40 hA hS hr.1 hr.2.1 h1252 rfl (fun A1253 n1254 c1255 ac w hS hA => ?_) rfl rfl rfl rfl rfl rfl rfl rfl rfl
  refine x_m hA rfl fun ac hA => ?_
  refine wn (hK1249 _ _ ?_)
  refine wp_reg ?_
  refine x_m hA rfl fun ac hA => ?_
  refine x_m hA rfl fun ac hA => ?_
  refine x_m hA rfl fun ac hA => ?_
  refine x_ia Tryz.underlying23 sz37 (hS.rdl 9 ha0 rfl) h1226 hA (fun ac hA => ?_) rfl rfl rfl rfl rfl rfl
  refine x_fae (m := x1131.toNat * 5) fa37_4 hA (fun ac hA => ?_) rfl rfl rfl rfl rfl
  obtain ⟨cs, hV, hc1256⟩ := el (hS.rdl 9 ha0 rfl) h1226
  obtain rfl := hV
  refine x_ld Tryz.underlying35 (hc1256 4 _ rfl) hA (fun ac hA => ?_) rfl rfl rfl rfl rfl rfl
  refine x_bsl (d := kF) (e := 35) (ps := #[(0, .float .f64 x1225.f4)]) (cells := [.float .f64 x1225.f4]) (xs := [x1225.f4]) (fun w => by kernel_rfl) rfl ⟨[.float .f64 x1225.f4], _, rfl, rfl, rfl⟩ hA hS (fun g1257 ac w hS hA => ?_) rfl rfl rfl rfl rfl rfl
  obtain ⟨h1258, hF⟩ := chk_some hF
  have hr := hS.rd 0 rfl
  refine x_app 9 inf35 Tryz.underlying41 hA hS hr.1 hr.2.1 h1258 rfl (fun A1259 n1260 c1261 ac w hS hA => ?_) rfl rfl rfl rfl rfl rfl rfl rfl rfl
  refine x_m hA rfl fun ac hA => ?_
  refine wpList_nil ?_
  refine hKx1223 _ _ ?_
  refine hK1222 _ _ ?_
  refine wp_reg ?_
  refine x_m hA rfl fun ac hA => ?_
  obtain ⟨x1262, h1263, hF⟩ := ltt_ hF
  refine x_v (v := .int .i64 x1262) hA (rv_i h1263 (r_add rfl (hA.ev rfl) (hA.ev rfl))) rfl fun ac hA => ?_
  refine x_m hA rfl fun ac hA => ?_
  refine wpList_nil ?_
  replace hS := hS.drop 1
  replace hS := hS.drop 2
  replace hS := hS.drop 3
  replace hS := hS.drop 4
  replace hS := hS.drop 5
  replace hS := hS.pk 1
  replace hS := hS.pk 2
  replace hS := hS.pk 3
  replace hS := hS.pk 4
  cases hF
  exact ⟨_, N1217_ _ rfl, A1232, n1233, c1234, A1239, n1240, c1241, A1246, n1247, c1248, A1253, n1254, c1255, A1259, n1260, c1261, hA.sub _ rfl, hS⟩
 replace hF := iff' hb1221 hF
 refine wp_exit ?_
 cases hF
 exact hx1217_0 l1111 l1115 l1119 l1123 l1127 (T1217_ _ rfl) A1112 n1113 c1114 A1116 n1117 c1118 A1120 n1121 c1122 A1124 n1125 c1126 A1128 n1129 c1130 ac w (hA.sub _ rfl) hS
end Go.Proofs.YthokgnonmcgkcaaGreatDoor.M
namespace Go.Proofs.YthokgnonmcgkcaaGreatDoor.M
open Go Go.RowKit Go.Proofs.YthokgnonmcgkcaaGreatDoor.E
set_option linter.unusedVariables false
set_option linter.unusedSimpArgs false
noncomputable def law06_fine_b1 : Option (Bool) :=
  some true
noncomputable def law06_fine_x1_0 : Option (Bool) :=
  law06_fine_b1
noncomputable def law06_fine_l1 (a0 : (List S37)) (a1 : Int) (x272 : Int) : Option ((Int) ⊕ ((Unit) ⊕ (Bool))) :=
  if (decide (x272 < (a0.length : Int))) = true then ((at_ a0 x272).bind fun x296 => ((r06_Form x296 a1).bind fun y299 => (if (!y299) = true then (some (.inr (.inr false))) else (ltt (IntKind.i64.wrap (x272 + 1)) fun x303 => (some (.inl (x303))))))) else (some (.inr (.inl ())))
noncomputable def law06_fine (a0 : (List S37)) (a1 : Int) : Option (Bool) :=
  (loop (fun s => law06_fine_l1 a0 a1 s) (0)).bind fun t => match t with | (.inl t) => law06_fine_x1_0 | (.inr t) => some t
noncomputable def law06_EventBack_j1 (a0 : (List Int)) (a1 : (List S37)) (x105 : Int) (b116 : Bool) : Option (Bool) :=
  if b116 = true then ((law06_awake).bind fun y119 => (some y119)) else (chk (([] : List Int).length + a0.length ≤ 140737488355328 / 1) ((event_Lay a0 a1).bind fun y126 => ((event_Read y126 (a0.length : Int) x105).bind fun y143 => ((r06_Lay a1).bind fun y155 => (chk ((bts a0).length + (bts y155).length ≤ maxLen) (if ((bts y126) == ((bts a0) ++ (bts y155))) = true then (if (y143.2.2 == 0) = true then (if (y143.2.1 == (y126.length : Int)) = true then ((r06_SameAll y143.1 a1).bind fun y164 => (some y164)) else (some false)) else (some false)) else (some false)))))))
noncomputable def law06_EventBack (a0 : (List Int)) (a1 : (List S37)) (a2 : Int) : Option (Bool) :=
  ltt (IntKind.i64.wrap a2) fun x103 => (ltt (IntKind.i64.wrap (1 + (x103.tmod 8))) fun x105 => ((law06_awake).bind fun y166 => (if (!y166) = true then (law06_EventBack_j1 a0 a1 x105 true) else (if (decide (60 < (a1.length : Int))) = true then (law06_EventBack_j1 a0 a1 x105 true) else (if (decide (300 < (a0.length : Int))) = true then (law06_EventBack_j1 a0 a1 x105 true) else ((law06_fine a1 x105).bind fun y171 => (law06_EventBack_j1 a0 a1 x105 (!y171))))))))
end Go.Proofs.YthokgnonmcgkcaaGreatDoor.M
namespace Go.Proofs.YthokgnonmcgkcaaGreatDoor.M
open Go Go.RowKit Go.Proofs.YthokgnonmcgkcaaGreatDoor.E
set_option linter.unusedVariables false
set_option maxRecDepth 100000
set_option maxHeartbeats 4000000
set_option linter.unusedSimpArgs false
theorem F_law06_fine {r : World} {L : List HP} {w : World} (a0 : (List S37)) (a1 : Int) (A0 : Option Addr) (n0 : Nat) (c0 : Nat) {y : (Bool)} (hF : law06_fine a0 a1 = some y) (ha0 : RdL L k37 A0 n0 c0 a0) (hS : SH r (L) w) :
  Ret Tryz.prog 5 #[.slice A0 n0 c0, .int .i64 a1] w fun v w' => v = .bool y ∧ SH r (L) w' := by
 refine enter Tryz.func5 rfl Tryz.ntmps5 [(0, .slice A0 n0 c0), (1, .int .i64 a1)] rfl (by simp) ?_
 intro ac hA Qf hQ hQn
 unfold law06_fine at hF
 refine ws fun K101 hK101 => ?_
 refine x_m hA rfl fun ac hA => ?_
 refine wn (hK101 _ _ ?_)
 refine wp_seq_k fun K102 hK102 => ?_
 refine ws fun K204 hK204 => ?_
 refine x_m hA rfl fun ac hA => ?_
 refine wn (hK204 _ _ ?_)
 refine wp_block_k fun Kx205 hKx205 => ?_
 have hb1 : law06_fine_b1 = some y → ∀ (ac : Act) (w : World), FR 19 [] ac [] → SH r (L) w → Kx205 ac w := by
  intro hF ac w hA hS
  unfold law06_fine_b1 at hF
  refine hKx205 _ _ ?_
  refine hK102 _ _ ?_
  refine ws fun K255 hK255 => ?_
  refine x_m hA rfl fun ac hA => ?_
  refine wn (hK255 _ _ ?_)
  refine wp_ret ?_
  cases hF
  refine hQ _ _ ?_
  refine lv Tryz.results5 hA rfl ?_
  exact ⟨rfl, hS⟩
 obtain ⟨t288, hl288, hF⟩ := bnd hF
 have hR288 := hF
 have hx288_0 : (.inl ()) = t288 → ∀ (ac : Act) (w : World), FR 19 [] ac [] → SH r (L) w → Kx205 ac w := by
  intro ht ac w hA hS
  subst ht
  replace hF : law06_fine_x1_0 = some y := hF
  unfold law06_fine_x1_0 at hF
  exact hb1 hF ac w (hA.sub _ rfl) hS
 refine wp_loop_fn hl288 (fun s ac w => FR 19 [] ac [(0, .slice A0 n0 c0), (1, .int .i64 a1), (5, .int .i64 s)] ∧ SH r (L) w) ⟨hA.sub _ rfl, hS⟩ ?_
 intro N288 s288 o288 hF N288_ T288_ ac w hLab
 obtain ⟨x272, rfl⟩ : ∃ q, q = s288 := ⟨_, rfl⟩
 replace hF : law06_fine_l1 a0 a1 x272 = some o288 := hF
 unfold law06_fine_l1 at hF
 try dsimp only at hLab
 obtain ⟨hA, hS⟩ := hLab
 refine wp_seq_k fun K290 hK290 => ?_
 refine ws fun K291 hK291 => ?_
 refine x_m hA rfl fun ac hA => ?_
 refine x_m hA rfl fun ac hA => ?_
 refine x_len Tryz.underlying23 (hS.rdl 0 ha0 rfl).2.1 hA (fun ac hA => ?_) rfl rfl rfl rfl rfl
 refine x_v hA (r_ltI rfl (hA.ev rfl) (hA.ev rfl)) rfl fun ac hA => ?_
 refine wn (hK291 _ _ ?_)
 refine c_if hA rfl (fun hb292 => ?_) fun hb292 => ?_
 ·replace hF := ift hb292 hF
  refine wp_skip ?_
  refine hK290 _ _ ?_
  refine wp_seq_k fun K293 hK293 => ?_
  refine wp_block_k fun Kx294 hKx294 => ?_
  refine ws fun K295 hK295 => ?_
  refine x_m hA rfl fun ac hA => ?_
  refine x_m hA rfl fun ac hA => ?_
  obtain ⟨x296, h297, hF⟩ := bnd hF
  refine x_ia Tryz.underlying23 sz37 (hS.rdl 0 ha0 rfl) h297 hA (fun ac hA => ?_) rfl rfl rfl rfl rfl rfl
  obtain ⟨cs, hV, hc298⟩ := el (hS.rdl 0 ha0 rfl) h297
  obtain rfl := hV
  refine x_lda (cs := [.int .u64 x296.f0, .int .i64 x296.f1, .int .i64 x296.f2, str x296.f3, .float .f64 x296.f4]) Tryz.underlying37 sz37 (fun j u h => by rw [ea_add]; exact hc298 _ _ h) hA (fun ac hA => ?_) rfl rfl rfl rfl rfl rfl
  refine x_m hA rfl fun ac hA => ?_
  obtain ⟨y299, h300, hF⟩ := bnd hF
  refine x_call en11 hA (F_r06_Form (L := L) x296 a1 h300 hS) (fun v ac w hR hA => ?_) rfl rfl rfl rfl rfl
  obtain ⟨rfl, hS⟩ := hR
  refine x_v hA (r_not rfl (hA.ev rfl)) rfl fun ac hA => ?_
  refine wn (hK295 _ _ ?_)
  refine c_if hA rfl (fun hb301 => ?_) fun hb301 => ?_
  ·replace hF := ift hb301 hF
   refine ws fun K302 hK302 => ?_
   refine x_m hA rfl fun ac hA => ?_
   refine wn (hK302 _ _ ?_)
   refine wp_ret ?_
   cases hF
   have ht := T288_ _ rfl
   subst ht
   replace hF := hR288
   replace hF : some false = some y := hF
   cases hF
   refine hQ _ _ ?_
   refine lv Tryz.results5 hA rfl ?_
   exact ⟨rfl, hS⟩
  replace hF := iff' hb301 hF
  refine wp_skip ?_
  refine hKx294 _ _ ?_
  refine hK293 _ _ ?_
  refine wp_reg ?_
  refine x_m hA rfl fun ac hA => ?_
  obtain ⟨x303, h304, hF⟩ := ltt_ hF
  refine x_v (v := .int .i64 x303) hA (rv_i h304 (r_add rfl (hA.ev rfl) (hA.ev rfl))) rfl fun ac hA => ?_
  refine x_m hA rfl fun ac hA => ?_
  refine wpList_nil ?_
  cases hF
  exact ⟨_, N288_ _ rfl, hA.sub _ rfl, hS⟩
 replace hF := iff' hb292 hF
 refine wp_exit ?_
 cases hF
 exact hx288_0 (T288_ _ rfl) ac w (hA.sub _ rfl) hS
theorem F_law06_EventBack {r : World} {L : List HP} {w : World} {Z : Nat → Prop} {wz : World} (a0 : (List Int)) (a1 : (List S37)) (a2 : Int) (A0 : Option Addr) (n0 : Nat) (c0 : Nat) (A1 : Option Addr) (n1 : Nat) (c1 : Nat) {y : (Bool)} (hF : law06_EventBack a0 a1 a2 = some y) (ha0 : Imm Z wz (kI .u8) A0 n0 c0 a0) (ha1 : Imm Z wz k37 A1 n1 c1 a1) (hG0 : Imm Z wz (kI .u32) (some ⟨0, 0, none⟩) 16 16 gl_page_table) (hS : SH r (zone Z wz :: L) w) :
  Ret Tryz.prog 3 #[.slice A0 n0 c0, .slice A1 n1 c1, .int .u8 a2] w fun v w' => ∃ (Z' : Nat → Prop) (wz' : World), v = .bool y ∧ Sub Z wz Z' wz' ∧ SH r (zone Z' wz' :: L) w' := by
 refine enter Tryz.func3 rfl Tryz.ntmps3 [(0, .slice A0 n0 c0), (1, .slice A1 n1 c1), (2, .int .u8 a2)] rfl (by simp) ?_
 intro ac hA Qf hQ hQn
 unfold law06_EventBack at hF
 refine ws fun K101 hK101 => ?_
 refine x_m hA rfl fun ac hA => ?_
 refine wn (hK101 _ _ ?_)
 refine ws fun K102 hK102 => ?_
 refine x_m hA rfl fun ac hA => ?_
 obtain ⟨x103, h104, hF⟩ := ltt_ hF
 refine x_v (v := .int .i64 x103) hA (rv_i h104 (r_convI Tryz.underlying5 Tryz.underlying3 rfl (hA.ev rfl))) rfl fun ac hA => ?_
 refine x_v hA (r_rem rfl (hA.ev rfl) (hA.ev rfl) (by decide)) rfl fun ac hA => ?_
 obtain ⟨x105, h106, hF⟩ := ltt_ hF
 refine x_v (v := .int .i64 x105) hA (rv_i h106 (r_add rfl (hA.ev rfl) (hA.ev rfl))) rfl fun ac hA => ?_
 refine x_m hA rfl fun ac hA => ?_
 refine wn (hK102 _ _ ?_)
 refine wp_seq_k fun K107 hK107 => ?_
 refine wp_seq_k fun K108 hK108 => ?_
 have hj1 : ∀ (b116 : Bool), law06_EventBack_j1 a0 a1 x105 b116 = some y → ∀ (ac : Act) (w : World), FR 72 [] ac [(0, .slice A0 n0 c0), (1, .slice A1 n1 c1), (7, .int .i64 x105), (33, .bool b116)] → SH r (zone Z wz :: L) w → K108 ac w := by
  intro b116 hF ac w hA hS
  unfold law06_EventBack_j1 at hF
  refine hK108 _ _ ?_
  refine c_if hA rfl (fun hb117 => ?_) fun hb117 => ?_
  ·replace hF := ift hb117 hF
   refine ws fun K118 hK118 => ?_
   obtain ⟨y119, h120, hF⟩ := bnd hF
   refine x_call en4 hA (F_law06_awake (L := zone Z wz :: L) h120 hS) (fun v ac w hR hA => ?_) rfl rfl rfl rfl rfl
   obtain ⟨rfl, hS⟩ := hR
   refine x_m hA rfl fun ac hA => ?_
   refine wn (hK118 _ _ ?_)
   refine wp_ret ?_
   cases hF
   refine hQ _ _ ?_
   refine lv Tryz.results3 hA rfl ?_
   exact ⟨Z, wz, rfl, (Sub.refl _ _), hS⟩
  replace hF := iff' hb117 hF
  refine wp_skip ?_
  refine hK107 _ _ ?_
  refine ws fun K121 hK121 => ?_
  refine x_m hA rfl fun ac hA => ?_
  replace hS := SH.nil_own (d := (kI .u8)) (e := 5) hS
  obtain ⟨h122, hF⟩ := chk_some hF
  have hr := hS.imm 1 ha0 rfl
  refine x_app 0 inf5 Tryz.underlying22 hA hS hr.1 hr.2.1 h122 rfl (fun A123 n124 c125 ac w hS hA => ?_) rfl rfl rfl rfl rfl rfl rfl rfl rfl
  rw [List.nil_append] at hS
  refine x_m hA rfl fun ac hA => ?_
  replace hS := hS.pk 1
  replace hS := hS.pk 1
  obtain ⟨y126, h127, hF⟩ := bnd hF
  refine x_call en6 hA (F_event_Lay (L := L) a0 a1 A123 n124 c125 A1 n1 c1 h127 ha1 hG0 hS) (fun v ac w hR hA => ?_) rfl rfl rfl rfl rfl
  obtain ⟨Z128, wz129, B130, m131, d132, rfl, h133, hS⟩ := hR
  have h134 := Imm.sub ha0 h133
  have h135 := Imm.sub ha1 h133
  refine x_m hA rfl fun ac hA => ?_
  refine wn (hK121 _ _ ?_)
  refine ws fun K136 hK136 => ?_
  refine x_m hA rfl fun ac hA => ?_
  refine x_m hA rfl fun ac hA => ?_
  refine x_len Tryz.underlying22 (hS.imm 1 h134 rfl).2.1 hA (fun ac hA => ?_) rfl rfl rfl rfl rfl
  refine x_m hA rfl fun ac hA => ?_
  replace hS := hS.pk 1
  replace hS := hS.pk 1
  obtain ⟨Z137, wz138, hS, h139, sb140⟩ := SH.freeze (n := m131) (c := d132) (A := B130) hS
  have h141 := Imm.sub h134 sb140
  have h142 := Imm.sub h135 sb140
  obtain ⟨y143, h144, hF⟩ := bnd hF
  refine x_call en7 hA (F_event_Read (L := L) y126 (a0.length : Int) x105 B130 m131 d132 h144 h139 (Imm.sub hG0 (Sub.trans h133 sb140)) hS) (fun v ac w hR hA => ?_) rfl rfl rfl rfl rfl
  obtain ⟨Z145, wz146, B147, m148, d149, rfl, h150, hS⟩ := hR
  have h151 := Imm.sub h141 h150
  have h152 := Imm.sub h142 h150
  have h153 := Imm.sub h139 h150
  refine x_m hA rfl fun ac hA => ?_
  refine x_v hA (r_extract rfl (hA.ev rfl) rfl) rfl fun ac hA => ?_
  refine x_v hA (r_extract rfl (hA.ev rfl) rfl) rfl fun ac hA => ?_
  refine x_v hA (r_extract rfl (hA.ev rfl) rfl) rfl fun ac hA => ?_
  refine x_m hA rfl fun ac hA => ?_
  refine x_m hA rfl fun ac hA => ?_
  refine x_m hA rfl fun ac hA => ?_
  refine wn (hK136 _ _ ?_)
  refine wp_seq_k fun K154 hK154 => ?_
  refine wp_draw [0, 1, 0, 4, 0, 16, 48, 124, 255, 511, 1023, 2047, 4095, 8191, 16383, 16383, 49151, 131071, 262143, 524287, 1048575, 1048575, 4194303, 8388607, 16777215] [5, 22] rfl hA hS (by kernel_rfl) (by kernel_rfl) (by kernel_rfl) (by kernel_rfl) fun w hS => ?_
  refine ⟨[(0, .slice B130 m131 d132), (1, str (bts y126)), (2, .slice A0 n0 c0), (3, str (bts a0)), (4, .slice A1 n1 c1)], ?_⟩
  refine dEff [0, 1, 2, 3, 4] [5] (by kernel_rfl) ⟨pu rfl rfl [(8, .slice B130 m131 d132)] (fun ac hA => y_move hA rfl rfl) rfl rfl, pu rfl rfl [(48, .slice B130 m131 d132)] (fun ac hA => y_b2s Tryz.underlying22 Tryz.underlying5 Tryz.underlying9 (hS.imm 1 h153 rfl) hA rfl rfl) rfl rfl, pu rfl rfl [(0, .slice A0 n0 c0)] (fun ac hA => y_move hA rfl rfl) rfl rfl, pu rfl rfl [(50, .slice A0 n0 c0)] (fun ac hA => y_b2s Tryz.underlying22 Tryz.underlying5 Tryz.underlying9 (hS.imm 1 h151 rfl) hA rfl rfl) rfl rfl, pu rfl rfl [(1, .slice A1 n1 c1)] (fun ac hA => y_move hA rfl rfl) rfl rfl, trivial⟩ (by kernel_rfl) (by kernel_rfl) ⟨ef rfl [(52, .slice A1 n1 c1)] (fun ac hA K hK => ?_) rfl rfl, trivial⟩
  obtain ⟨y155, h156, hF⟩ := bnd hF
  refine z_call en8 hA (F_r06_Lay (L := own k37 37 B147 m148 d149 y143.1 :: zone Z145 wz146 :: L) a1 A1 n1 c1 h156 (h152.rdl 1 rfl) hS) (fun v w hR => ?_) rfl rfl
  obtain ⟨B157, m158, d159, rfl, hS⟩ := hR
  obtain ⟨h160, hF⟩ := chk_some hF
  refine bcase (b := (bts y126) == ((bts a0) ++ (bts y155))) (fun hb161 => ?_) fun hb161 => ?_
  ·replace hF := ift hb161 hF
   refine bcase (b := y143.2.2 == 0) (fun hb162 => ?_) fun hb162 => ?_
   ·replace hF := ift hb162 hF
    refine bcase (b := y143.2.1 == (y126.length : Int)) (fun hb163 => ?_) fun hb163 => ?_
    ·replace hF := ift hb163 hF
     refine hK _ [(6, str (bts y155)), (7, str ((bts a0) ++ (bts y155))), (8, .bool ((bts y126) == ((bts a0) ++ (bts y155)))), (9, .bool ((bts y126) == ((bts a0) ++ (bts y155)))), (10, .int .i64 y143.2.2), (11, .bool (y143.2.2 == 0)), (12, .bool (y143.2.2 == 0)), (13, .bool (y143.2.2 == 0)), (14, .int .i64 y143.2.1), (15, .slice B130 m131 d132), (16, .int .i64 (y126.length : Int)), (17, .bool (y143.2.1 == (y126.length : Int))), (18, .bool (y143.2.1 == (y126.length : Int))), (19, .bool (y143.2.1 == (y126.length : Int))), (20, .slice B147 m148 d149), (21, .slice A1 n1 c1)] _ rfl ?_
     refine dEff [0, 1, 2, 3, 6, 7, 8, 9, 10, 11, 12, 13, 14, 15, 16, 17, 18, 19, 20, 21] [22] (by kernel_rfl) ⟨pu rfl rfl [(8, .slice B130 m131 d132)] (fun ac hA => y_move hA rfl rfl) rfl rfl, pu rfl rfl [(48, .slice B130 m131 d132)] (fun ac hA => y_b2s Tryz.underlying22 Tryz.underlying5 Tryz.underlying9 (hS.imm 2 h153 rfl) hA rfl rfl) rfl rfl, pu rfl rfl [(0, .slice A0 n0 c0)] (fun ac hA => y_move hA rfl rfl) rfl rfl, pu rfl rfl [(50, .slice A0 n0 c0)] (fun ac hA => y_b2s Tryz.underlying22 Tryz.underlying5 Tryz.underlying9 (hS.imm 2 h151 rfl) hA rfl rfl) rfl rfl, pu rfl rfl [(53, .slice B157 m158 d159)] (fun ac hA => y_b2s Tryz.underlying22 Tryz.underlying5 Tryz.underlying9 (hS.rd 0 rfl) hA rfl rfl) rfl rfl, pu rfl rfl [(51, str (bts a0)), (54, str (bts y155))] (fun ac hA => r_catS rfl (hA.ev rfl) (hA.ev rfl) h160) rfl rfl, pu rfl rfl [(49, str (bts y126)), (55, str ((bts a0) ++ (bts y155)))] (fun ac hA => r_eqS rfl (hA.ev rfl) (hA.ev rfl)) rfl rfl, pu rfl rfl [(56, .bool ((bts y126) == ((bts a0) ++ (bts y155))))] (fun ac hA => y_move hA rfl rfl) rfl rfl, puOn rfl rfl rfl rfl [(11, .int .i64 y143.2.2), (57, .bool ((bts y126) == ((bts a0) ++ (bts y155))))] rfl hb161 (fun ac hA => y_move hA rfl rfl) rfl, puOn rfl rfl rfl rfl [(57, .bool ((bts y126) == ((bts a0) ++ (bts y155)))), (58, .int .i64 y143.2.2)] rfl hb161 (fun ac hA => r_eqI rfl (hA.ev rfl) (hA.ev rfl)) rfl, pu rfl rfl [(57, .bool ((bts y126) == ((bts a0) ++ (bts y155)))), (59, .bool (y143.2.2 == 0))] (fun ac hA => y_pickt hb161 hA rfl rfl rfl) rfl rfl, pu rfl rfl [(60, .bool (y143.2.2 == 0))] (fun ac hA => y_move hA rfl rfl) rfl rfl, puOn rfl rfl rfl rfl [(10, .int .i64 y143.2.1), (61, .bool (y143.2.2 == 0))] rfl hb162 (fun ac hA => y_move hA rfl rfl) rfl, puOn rfl rfl rfl rfl [(8, .slice B130 m131 d132), (61, .bool (y143.2.2 == 0))] rfl hb162 (fun ac hA => y_move hA rfl rfl) rfl, puOn rfl rfl rfl rfl [(61, .bool (y143.2.2 == 0)), (63, .slice B130 m131 d132)] rfl hb162 (fun ac hA => y_len Tryz.underlying22 (hS.imm 2 h153 rfl).2.1 hA rfl rfl) rfl, puOn rfl rfl rfl rfl [(61, .bool (y143.2.2 == 0)), (62, .int .i64 y143.2.1), (64, .int .i64 (y126.length : Int))] rfl hb162 (fun ac hA => r_eqI rfl (hA.ev rfl) (hA.ev rfl)) rfl, pu rfl rfl [(61, .bool (y143.2.2 == 0)), (65, .bool (y143.2.1 == (y126.length : Int)))] (fun ac hA => y_pickt hb162 hA rfl rfl rfl) rfl rfl, pu rfl rfl [(66, .bool (y143.2.1 == (y126.length : Int)))] (fun ac hA => y_move hA rfl rfl) rfl rfl, puOn rfl rfl rfl rfl [(9, .slice B147 m148 d149), (67, .bool (y143.2.1 == (y126.length : Int)))] rfl hb163 (fun ac hA => y_move hA rfl rfl) rfl, puOn rfl rfl rfl rfl [(1, .slice A1 n1 c1), (67, .bool (y143.2.1 == (y126.length : Int)))] rfl hb163 (fun ac hA => y_move hA rfl rfl) rfl, trivial⟩ (by kernel_rfl) (by kernel_rfl) ⟨efOn rfl rfl rfl [(67, .bool (y143.2.1 == (y126.length : Int))), (68, .slice B147 m148 d149), (69, .slice A1 n1 c1)] rfl hb163 (fun ac hA K hK => ?_) rfl, trivial⟩
     obtain ⟨y164, h165, hF⟩ := bnd hF
     refine z_call en9 hA (F_r06_SameAll (L := own (kI .u8) 5 B157 m158 d159 y155 :: own k37 37 B147 m148 d149 y143.1 :: zone Z145 wz146 :: L) y143.1 a1 B147 m148 d149 A1 n1 c1 h165 (RdL.own 1 rfl (hS.dropN 0)) (h152.rdl 2 rfl) hS) (fun v w hR => ?_) rfl rfl
     obtain ⟨rfl, hS⟩ := hR
     refine hK _ [(23, .bool y164), (24, .bool y164)] _ rfl ?_
     refine dEnd [23, 24] (by kernel_rfl) ⟨pu rfl rfl [(67, .bool (y143.2.1 == (y126.length : Int))), (70, .bool y164)] (fun ac hA => y_pickt hb163 hA rfl rfl rfl) rfl rfl, pu rfl rfl [(71, .bool y164)] (fun ac hA => y_assign hA rfl rfl) rfl rfl, trivial⟩ ⟨by kernel_rfl, by kernel_rfl⟩ [(6, .bool y164)] rfl (fun ac hA => ?_)
     refine hK154 _ _ ?_
     refine wp_ret ?_
     replace hS := hS.drop 0
     replace hS := hS.drop 0
     cases hF
     refine hQ _ _ ?_
     refine lv Tryz.results3 hA rfl ?_
     exact ⟨Z145, wz146, rfl, (Sub.trans (Sub.trans h133 sb140) h150), hS⟩
    replace hF := iff' hb163 hF
    refine hK _ [(6, str (bts y155)), (7, str ((bts a0) ++ (bts y155))), (8, .bool ((bts y126) == ((bts a0) ++ (bts y155)))), (9, .bool ((bts y126) == ((bts a0) ++ (bts y155)))), (10, .int .i64 y143.2.2), (11, .bool (y143.2.2 == 0)), (12, .bool (y143.2.2 == 0)), (13, .bool (y143.2.2 == 0)), (14, .int .i64 y143.2.1), (15, .slice B130 m131 d132), (16, .int .i64 (y126.length : Int)), (17, .bool (y143.2.1 == (y126.length : Int))), (18, .bool (y143.2.1 == (y126.length : Int))), (19, .bool (y143.2.1 == (y126.length : Int))), (20, undef), (21, undef)] _ rfl ?_
    refine dEff [0, 1, 2, 3, 6, 7, 8, 9, 10, 11, 12, 13, 14, 15, 16, 17, 18, 19, 20, 21] [22] (by kernel_rfl) ⟨pu rfl rfl [(8, .slice B130 m131 d132)] (fun ac hA => y_move hA rfl rfl) rfl rfl, pu rfl rfl [(48, .slice B130 m131 d132)] (fun ac hA => y_b2s Tryz.underlying22 Tryz.underlying5 Tryz.underlying9 (hS.imm 2 h153 rfl) hA rfl rfl) rfl rfl, pu rfl rfl [(0, .slice A0 n0 c0)] (fun ac hA => y_move hA rfl rfl) rfl rfl, pu rfl rfl [(50, .slice A0 n0 c0)] (fun ac hA => y_b2s Tryz.underlying22 Tryz.underlying5 Tryz.underlying9 (hS.imm 2 h151 rfl) hA rfl rfl) rfl rfl, pu rfl rfl [(53, .slice B157 m158 d159)] (fun ac hA => y_b2s Tryz.underlying22 Tryz.underlying5 Tryz.underlying9 (hS.rd 0 rfl) hA rfl rfl) rfl rfl, pu rfl rfl [(51, str (bts a0)), (54, str (bts y155))] (fun ac hA => r_catS rfl (hA.ev rfl) (hA.ev rfl) h160) rfl rfl, pu rfl rfl [(49, str (bts y126)), (55, str ((bts a0) ++ (bts y155)))] (fun ac hA => r_eqS rfl (hA.ev rfl) (hA.ev rfl)) rfl rfl, pu rfl rfl [(56, .bool ((bts y126) == ((bts a0) ++ (bts y155))))] (fun ac hA => y_move hA rfl rfl) rfl rfl, puOn rfl rfl rfl rfl [(11, .int .i64 y143.2.2), (57, .bool ((bts y126) == ((bts a0) ++ (bts y155))))] rfl hb161 (fun ac hA => y_move hA rfl rfl) rfl, puOn rfl rfl rfl rfl [(57, .bool ((bts y126) == ((bts a0) ++ (bts y155)))), (58, .int .i64 y143.2.2)] rfl hb161 (fun ac hA => r_eqI rfl (hA.ev rfl) (hA.ev rfl)) rfl, pu rfl rfl [(57, .bool ((bts y126) == ((bts a0) ++ (bts y155)))), (59, .bool (y143.2.2 == 0))] (fun ac hA => y_pickt hb161 hA rfl rfl rfl) rfl rfl, pu rfl rfl [(60, .bool (y143.2.2 == 0))] (fun ac hA => y_move hA rfl rfl) rfl rfl, puOn rfl rfl rfl rfl [(10, .int .i64 y143.2.1), (61, .bool (y143.2.2 == 0))] rfl hb162 (fun ac hA => y_move hA rfl rfl) rfl, puOn rfl rfl rfl rfl [(8, .slice B130 m131 d132), (61, .bool (y143.2.2 == 0))] rfl hb162 (fun ac hA => y_move hA rfl rfl) rfl, puOn rfl rfl rfl rfl [(61, .bool (y143.2.2 == 0)), (63, .slice B130 m131 d132)] rfl hb162 (fun ac hA => y_len Tryz.underlying22 (hS.imm 2 h153 rfl).2.1 hA rfl rfl) rfl, puOn rfl rfl rfl rfl [(61, .bool (y143.2.2 == 0)), (62, .int .i64 y143.2.1), (64, .int .i64 (y126.length : Int))] rfl hb162 (fun ac hA => r_eqI rfl (hA.ev rfl) (hA.ev rfl)) rfl, pu rfl rfl [(61, .bool (y143.2.2 == 0)), (65, .bool (y143.2.1 == (y126.length : Int)))] (fun ac hA => y_pickt hb162 hA rfl rfl rfl) rfl rfl, pu rfl rfl [(66, .bool (y143.2.1 == (y126.length : Int)))] (fun ac hA => y_move hA rfl rfl) rfl rfl, puOff rfl rfl rfl rfl [(9, .slice B147 m148 d149), (67, .bool (y143.2.1 == (y126.length : Int)))] rfl hb163 rfl, puOff rfl rfl rfl rfl [(1, .slice A1 n1 c1), (67, .bool (y143.2.1 == (y126.length : Int)))] rfl hb163 rfl, trivial⟩ (by kernel_rfl) (by kernel_rfl) ⟨?_, trivial⟩
    refine efOff rfl rfl rfl [(67, .bool (y143.2.1 == (y126.length : Int))), (68, undef), (69, undef)] rfl [(23, .bool false), (24, .bool false)] hb163 rfl ?_ rfl
    refine dEnd [23, 24] (by kernel_rfl) ⟨pu rfl rfl [(67, .bool (y143.2.1 == (y126.length : Int))), (70, undef)] (fun ac hA => y_pickf hb163 hA rfl rfl rfl) rfl rfl, pu rfl rfl [(71, .bool false)] (fun ac hA => y_assign hA rfl rfl) rfl rfl, trivial⟩ ⟨by kernel_rfl, by kernel_rfl⟩ [(6, .bool false)] rfl (fun ac hA => ?_)
    refine hK154 _ _ ?_
    refine wp_ret ?_
    replace hS := hS.drop 0
    replace hS := hS.drop 0
    cases hF
    refine hQ _ _ ?_
    refine lv Tryz.results3 hA rfl ?_
    exact ⟨Z145, wz146, rfl, (Sub.trans (Sub.trans h133 sb140) h150), hS⟩
   replace hF := iff' hb162 hF
   refine hK _ [(6, str (bts y155)), (7, str ((bts a0) ++ (bts y155))), (8, .bool ((bts y126) == ((bts a0) ++ (bts y155)))), (9, .bool ((bts y126) == ((bts a0) ++ (bts y155)))), (10, .int .i64 y143.2.2), (11, .bool (y143.2.2 == 0)), (12, .bool (y143.2.2 == 0)), (13, .bool (y143.2.2 == 0)), (14, undef), (15, undef), (16, undef), (17, undef), (18, .bool false), (19, .bool false), (20, undef), (21, undef)] _ rfl ?_
   refine dEff [0, 1, 2, 3, 6, 7, 8, 9, 10, 11, 12, 13, 14, 15, 16, 17, 18, 19, 20, 21] [22] (by kernel_rfl) ⟨pu rfl rfl [(8, .slice B130 m131 d132)] (fun ac hA => y_move hA rfl rfl) rfl rfl, pu rfl rfl [(48, .slice B130 m131 d132)] (fun ac hA => y_b2s Tryz.underlying22 Tryz.underlying5 Tryz.underlying9 (hS.imm 2 h153 rfl) hA rfl rfl) rfl rfl, pu rfl rfl [(0, .slice A0 n0 c0)] (fun ac hA => y_move hA rfl rfl) rfl rfl, pu rfl rfl [(50, .slice A0 n0 c0)] (fun ac hA => y_b2s Tryz.underlying22 Tryz.underlying5 Tryz.underlying9 (hS.imm 2 h151 rfl) hA rfl rfl) rfl rfl, pu rfl rfl [(53, .slice B157 m158 d159)] (fun ac hA => y_b2s Tryz.underlying22 Tryz.underlying5 Tryz.underlying9 (hS.rd 0 rfl) hA rfl rfl) rfl rfl, pu rfl rfl [(51, str (bts a0)), (54, str (bts y155))] (fun ac hA => r_catS rfl (hA.ev rfl) (hA.ev rfl) h160) rfl rfl, pu rfl rfl [(49, str (bts y126)), (55, str ((bts a0) ++ (bts y155)))] (fun ac hA => r_eqS rfl (hA.ev rfl) (hA.ev rfl)) rfl rfl, pu rfl rfl [(56, .bool ((bts y126) == ((bts a0) ++ (bts y155))))] (fun ac hA => y_move hA rfl rfl) rfl rfl, puOn rfl rfl rfl rfl [(11, .int .i64 y143.2.2), (57, .bool ((bts y126) == ((bts a0) ++ (bts y155))))] rfl hb161 (fun ac hA => y_move hA rfl rfl) rfl, puOn rfl rfl rfl rfl [(57, .bool ((bts y126) == ((bts a0) ++ (bts y155)))), (58, .int .i64 y143.2.2)] rfl hb161 (fun ac hA => r_eqI rfl (hA.ev rfl) (hA.ev rfl)) rfl, pu rfl rfl [(57, .bool ((bts y126) == ((bts a0) ++ (bts y155)))), (59, .bool (y143.2.2 == 0))] (fun ac hA => y_pickt hb161 hA rfl rfl rfl) rfl rfl, pu rfl rfl [(60, .bool (y143.2.2 == 0))] (fun ac hA => y_move hA rfl rfl) rfl rfl, puOff rfl rfl rfl rfl [(10, .int .i64 y143.2.1), (61, .bool (y143.2.2 == 0))] rfl hb162 rfl, puOff rfl rfl rfl rfl [(8, .slice B130 m131 d132), (61, .bool (y143.2.2 == 0))] rfl hb162 rfl, puOff rfl rfl rfl rfl [(61, .bool (y143.2.2 == 0)), (63, undef)] rfl hb162 rfl, puOff rfl rfl rfl rfl [(61, .bool (y143.2.2 == 0)), (62, undef), (64, undef)] rfl hb162 rfl, pu rfl rfl [(61, .bool (y143.2.2 == 0)), (65, undef)] (fun ac hA => y_pickf hb162 hA rfl rfl rfl) rfl rfl, pu rfl rfl [(66, .bool false)] (fun ac hA => y_move hA rfl rfl) rfl rfl, puOff rfl rfl rfl rfl [(9, .slice B147 m148 d149), (67, .bool false)] rfl rfl rfl, puOff rfl rfl rfl rfl [(1, .slice A1 n1 c1), (67, .bool false)] rfl rfl rfl, trivial⟩ (by kernel_rfl) (by kernel_rfl) ⟨?_, trivial⟩
   refine efOff rfl rfl rfl [(67, .bool false), (68, undef), (69, undef)] rfl [(23, .bool false), (24, .bool false)] rfl rfl ?_ rfl
   refine dEnd [23, 24] (by kernel_rfl) ⟨pu rfl rfl [(67, .bool false), (70, undef)] (fun ac hA => y_pickf rfl hA rfl rfl rfl) rfl rfl, pu rfl rfl [(71, .bool false)] (fun ac hA => y_assign hA rfl rfl) rfl rfl, trivial⟩ ⟨by kernel_rfl, by kernel_rfl⟩ [(6, .bool false)] rfl (fun ac hA => ?_)
   refine hK154 _ _ ?_
   refine wp_ret ?_
   replace hS := hS.drop 0
   replace hS := hS.drop 0
   cases hF
   refine hQ _ _ ?_
   refine lv Tryz.results3 hA rfl ?_
   exact ⟨Z145, wz146, rfl, (Sub.trans (Sub.trans h133 sb140) h150), hS⟩
  replace hF := iff' hb161 hF
  refine hK _ [(6, str (bts y155)), (7, str ((bts a0) ++ (bts y155))), (8, .bool ((bts y126) == ((bts a0) ++ (bts y155)))), (9, .bool ((bts y126) == ((bts a0) ++ (bts y155)))), (10, undef), (11, undef), (12, .bool false), (13, .bool false), (14, undef), (15, undef), (16, undef), (17, undef), (18, .bool false), (19, .bool false), (20, undef), (21, undef)] _ rfl ?_
  refine dEff [0, 1, 2, 3, 6, 7, 8, 9, 10, 11, 12, 13, 14, 15, 16, 17, 18, 19, 20, 21] [22] (by kernel_rfl) ⟨pu rfl rfl [(8, .slice B130 m131 d132)] (fun ac hA => y_move hA rfl rfl) rfl rfl, pu rfl rfl [(48, .slice B130 m131 d132)] (fun ac hA => y_b2s Tryz.underlying22 Tryz.underlying5 Tryz.underlying9 (hS.imm 2 h153 rfl) hA rfl rfl) rfl rfl, pu rfl rfl [(0, .slice A0 n0 c0)] (fun ac hA => y_move hA rfl rfl) rfl rfl, pu rfl rfl [(50, .slice A0 n0 c0)] (fun ac hA => y_b2s Tryz.underlying22 Tryz.underlying5 Tryz.underlying9 (hS.imm 2 h151 rfl) hA rfl rfl) rfl rfl, pu rfl rfl [(53, .slice B157 m158 d159)] (fun ac hA => y_b2s Tryz.underlying22 Tryz.underlying5 Tryz.underlying9 (hS.rd 0 rfl) hA rfl rfl) rfl rfl, pu rfl rfl [(51, str (bts a0)), (54, str (bts y155))] (fun ac hA => r_catS rfl (hA.ev rfl) (hA.ev rfl) h160) rfl rfl, pu rfl rfl [(49, str (bts y126)), (55, str ((bts a0) ++ (bts y155)))] (fun ac hA => r_eqS rfl (hA.ev rfl) (hA.ev rfl)) rfl rfl, pu rfl rfl [(56, .bool ((bts y126) == ((bts a0) ++ (bts y155))))] (fun ac hA => y_move hA rfl rfl) rfl rfl, puOff rfl rfl rfl rfl [(11, .int .i64 y143.2.2), (57, .bool ((bts y126) == ((bts a0) ++ (bts y155))))] rfl hb161 rfl, puOff rfl rfl rfl rfl [(57, .bool ((bts y126) == ((bts a0) ++ (bts y155)))), (58, undef)] rfl hb161 rfl, pu rfl rfl [(57, .bool ((bts y126) == ((bts a0) ++ (bts y155)))), (59, undef)] (fun ac hA => y_pickf hb161 hA rfl rfl rfl) rfl rfl, pu rfl rfl [(60, .bool false)] (fun ac hA => y_move hA rfl rfl) rfl rfl, puOff rfl rfl rfl rfl [(10, .int .i64 y143.2.1), (61, .bool false)] rfl rfl rfl, puOff rfl rfl rfl rfl [(8, .slice B130 m131 d132), (61, .bool false)] rfl rfl rfl, puOff rfl rfl rfl rfl [(61, .bool false), (63, undef)] rfl rfl rfl, puOff rfl rfl rfl rfl [(61, .bool false), (62, undef), (64, undef)] rfl rfl rfl, pu rfl rfl [(61, .bool false), (65, undef)] (fun ac hA => y_pickf rfl hA rfl rfl rfl) rfl rfl, pu rfl rfl [(66, .bool false)] (fun ac hA => y_move hA rfl rfl) rfl rfl, puOff rfl rfl rfl rfl [(9, .slice B147 m148 d149), (67, .bool false)] rfl rfl rfl, puOff rfl rfl rfl rfl [(1, .slice A1 n1 c1), (67, .bool false)] rfl rfl rfl, trivial⟩ (by kernel_rfl) (by kernel_rfl) ⟨?_, trivial⟩
  refine efOff rfl rfl rfl [(67, .bool false), (68, undef), (69, undef)] rfl [(23, .bool false), (24, .bool false)] rfl rfl ?_ rfl
  refine dEnd [23, 24] (by kernel_rfl) ⟨pu rfl rfl [(67, .bool false), (70, undef)] (fun ac hA => y_pickf rfl hA rfl rfl rfl) rfl rfl, pu rfl rfl [(71, .bool false)] (fun ac hA => y_assign hA rfl rfl) rfl rfl, trivial⟩ ⟨by kernel_rfl, by kernel_rfl⟩ [(6, .bool false)] rfl (fun ac hA => ?_)
  refine hK154 _ _ ?_
  refine wp_ret ?_
  replace hS := hS.drop 0
  replace hS := hS.drop 0
  cases hF
  refine hQ _ _ ?_
  refine lv Tryz.results3 hA rfl ?_
  exact ⟨Z145, wz146, rfl, (Sub.trans (Sub.trans h133 sb140) h150), hS⟩
 refine wp_reg ?_
 obtain ⟨y166, h167, hF⟩ := bnd hF
 refine x_call en4 hA (F_law06_awake (L := zone Z wz :: L) h167 hS) (fun v ac w hR hA => ?_) rfl rfl rfl rfl rfl
 obtain ⟨rfl, hS⟩ := hR
 refine x_v hA (r_not rfl (hA.ev rfl)) rfl fun ac hA => ?_
 refine x_m hA rfl fun ac hA => ?_
 refine bcase (b := !y166) (fun hb168 => ?_) fun hb168 => ?_
 ·replace hF := ift hb168 hF
  refine x_off hb168 hA (fun ac hA => ?_) rfl rfl rfl rfl rfl
  refine x_off hb168 hA (fun ac hA => ?_) rfl rfl rfl rfl rfl
  refine x_off hb168 hA (fun ac hA => ?_) rfl rfl rfl rfl rfl
  refine x_pickt hb168 hA (fun ac hA => ?_) rfl rfl rfl rfl rfl rfl
  refine x_m hA rfl fun ac hA => ?_
  refine x_off rfl hA (fun ac hA => ?_) rfl rfl rfl rfl rfl
  refine x_off rfl hA (fun ac hA => ?_) rfl rfl rfl rfl rfl
  refine x_off rfl hA (fun ac hA => ?_) rfl rfl rfl rfl rfl
  refine x_pickt rfl hA (fun ac hA => ?_) rfl rfl rfl rfl rfl rfl
  refine x_m hA rfl fun ac hA => ?_
  refine x_off rfl hA (fun ac hA => ?_) rfl rfl rfl rfl rfl
  refine x_off rfl hA (fun ac hA => ?_) rfl rfl rfl rfl rfl
  refine x_off rfl hA (fun ac hA => ?_) rfl rfl rfl rfl rfl
  refine x_off rfl hA (fun ac hA => ?_) rfl rfl rfl rfl rfl
  refine x_pickt rfl hA (fun ac hA => ?_) rfl rfl rfl rfl rfl rfl
  refine wpList_nil ?_
  exact hj1 true hF ac w (hA.sub _ rfl) hS
 replace hF := iff' hb168 hF
 refine x_on hb168 hA ?_ rfl rfl rfl
 refine x_m hA rfl fun ac hA => ?_
 refine x_on hb168 hA ?_ rfl rfl rfl
 refine x_len Tryz.underlying23 (hS.imm 0 ha1 rfl).2.1 hA (fun ac hA => ?_) rfl rfl rfl rfl rfl
 refine x_on hb168 hA ?_ rfl rfl rfl
 refine x_v hA (r_gtI rfl (hA.ev rfl) (hA.ev rfl)) rfl fun ac hA => ?_
 refine x_pickf hb168 hA (fun ac hA => ?_) rfl rfl rfl rfl rfl rfl
 refine x_m hA rfl fun ac hA => ?_
 refine bcase (b := decide (60 < (a1.length : Int))) (fun hb169 => ?_) fun hb169 => ?_
 ·replace hF := ift hb169 hF
  refine x_off hb169 hA (fun ac hA => ?_) rfl rfl rfl rfl rfl
  refine x_off hb169 hA (fun ac hA => ?_) rfl rfl rfl rfl rfl
  refine x_off hb169 hA (fun ac hA => ?_) rfl rfl rfl rfl rfl
  refine x_pickt hb169 hA (fun ac hA => ?_) rfl rfl rfl rfl rfl rfl
  refine x_m hA rfl fun ac hA => ?_
  refine x_off rfl hA (fun ac hA => ?_) rfl rfl rfl rfl rfl
  refine x_off rfl hA (fun ac hA => ?_) rfl rfl rfl rfl rfl
  refine x_off rfl hA (fun ac hA => ?_) rfl rfl rfl rfl rfl
  refine x_off rfl hA (fun ac hA => ?_) rfl rfl rfl rfl rfl
  refine x_pickt rfl hA (fun ac hA => ?_) rfl rfl rfl rfl rfl rfl
  refine wpList_nil ?_
  exact hj1 true hF ac w (hA.sub _ rfl) hS
 replace hF := iff' hb169 hF
 refine x_on hb169 hA ?_ rfl rfl rfl
 refine x_m hA rfl fun ac hA => ?_
 refine x_on hb169 hA ?_ rfl rfl rfl
 refine x_len Tryz.underlying22 (hS.imm 0 ha0 rfl).2.1 hA (fun ac hA => ?_) rfl rfl rfl rfl rfl
 refine x_on hb169 hA ?_ rfl rfl rfl
 refine x_v hA (r_gtI rfl (hA.ev rfl) (hA.ev rfl)) rfl fun ac hA => ?_
 refine x_pickf hb169 hA (fun ac hA => ?_) rfl rfl rfl rfl rfl rfl
 refine x_m hA rfl fun ac hA => ?_
 refine bcase (b := decide (300 < (a0.length : Int))) (fun hb170 => ?_) fun hb170 => ?_
 ·replace hF := ift hb170 hF
  refine x_off hb170 hA (fun ac hA => ?_) rfl rfl rfl rfl rfl
  refine x_off hb170 hA (fun ac hA => ?_) rfl rfl rfl rfl rfl
  refine x_off hb170 hA (fun ac hA => ?_) rfl rfl rfl rfl rfl
  refine x_off hb170 hA (fun ac hA => ?_) rfl rfl rfl rfl rfl
  refine x_pickt hb170 hA (fun ac hA => ?_) rfl rfl rfl rfl rfl rfl
  refine wpList_nil ?_
  exact hj1 true hF ac w (hA.sub _ rfl) hS
 replace hF := iff' hb170 hF
 refine x_on hb170 hA ?_ rfl rfl rfl
 refine x_m hA rfl fun ac hA => ?_
 refine x_on hb170 hA ?_ rfl rfl rfl
 refine x_m hA rfl fun ac hA => ?_
 refine x_on hb170 hA ?_ rfl rfl rfl
 obtain ⟨y171, h172, hF⟩ := bnd hF
 refine x_call en5 hA (F_law06_fine (L := zone Z wz :: L) a1 x105 A1 n1 c1 h172 (ha1.rdl 0 rfl) hS) (fun v ac w hR hA => ?_) rfl rfl rfl rfl rfl
 obtain ⟨rfl, hS⟩ := hR
 refine x_on hb170 hA ?_ rfl rfl rfl
 refine x_v hA (r_not rfl (hA.ev rfl)) rfl fun ac hA => ?_
 refine x_pickf hb170 hA (fun ac hA => ?_) rfl rfl rfl rfl rfl rfl
 refine wpList_nil ?_
 exact hj1 (!y171) hF ac w (hA.sub _ rfl) hS
end Go.Proofs.YthokgnonmcgkcaaGreatDoor.M
namespace Go.Proofs.YthokgnonmcgkcaaGreatDoor.eventBack
open Go Go.RowKit Go.ChangeShapes Go.WideShapes Go.ChangeAt Go.Proofs.YthokgnonmcgkcaaGreatDoor.E Go.Proofs.YthokgnonmcgkcaaGreatDoor.M
set_option linter.unusedVariables false
theorem own : ownKnob Tryz.prog.godebug = none := by kernel_rfl
theorem laidOut : laidOutB Tryz.prog = true := by kernel_rfl
theorem gN : Tryz.prog.globalNamed "headrace/page.table" = some 0 := by kernel_rfl
theorem gT : (Tryz.prog.globals[0]?).map (·.type) = some 104 := by kernel_rfl
theorem door_met (os : Os) (args : Array Value) : laidMetH Tryz.prog Rows.eventBackRow.laid ((World.doorLaid Tryz.prog 400 os).forCall (fun _ _ => 0) ⟨#[], args, []⟩).memory :=
  laidMetH_of_parts3 (fuel := 8) (laidMet_of_run' 8 (by kernel_rfl) (by kernel_rfl)) (by kernel_rfl) (by kernel_rfl)
theorem of_laid {W : World} (h : laidMetH Tryz.prog Rows.eventBackRow.laid W) : Imm (HeapZ W) W (kI .u32) (some ⟨0, 0, none⟩) 16 16 M.gl_page_table := by
  rw [MakeChecks.laidMetH_plain _ _ _ (by kernel_rfl)] at h
  exact tab_imm gN gT Tryz.underlying104 Tryz.underlying79 ce79 rfl (by decide) h
def Pure : Prop := ∀ (a0 : (List Int)) (a1 : (List M.S37)) (a2 : Int), (gL 1 (gI .u8)) a0 → (gL 48 M.g37) a1 → (gI .u8) a2 → M.law06_EventBack a0 a1 a2 = some true
set_option maxRecDepth 100000 in
theorem lifted (hP : Pure) (os : Os) (started : os.Started) (H : Type) (enc : TypeId × Value → H) :
    ReturnsInHanded {} Tryz.checked os 3 .any (fun w args => (Rows.eventBackSpec.pre enc Tryz.prog Tryz.f3 [] false w args ∧ laidMetH Tryz.prog Rows.eventBackRow.laid w) ∧ sizedMet enc Tryz.prog Tryz.f3 (OpenSpec.ofChange Rows.eventBackSpec) false w args)
      (Rows.eventBackSpec.post enc Tryz.prog Tryz.f3 false true false false) := by
  refine returnsInHanded_of_change_and (C := Tryz.checked) (X := fun w _ => laidMetH Tryz.prog Rows.eventBackRow.laid w) (fun _ _ _ hh h => h.of_heap hh) own started (by kernel_rfl) Tryz.func3
    (ChangeSpec.witness_shaped (enc := enc) (C := Tryz.checked) (os := os) (X := fun w _ => laidMetH Tryz.prog Rows.eventBackRow.laid w) false (World.doorLaid Tryz.prog 400 os) #[.slice none 0 0, .slice none 0 0, .int .u8 0] 8 rfl (World.shaped_of_RefB (by kernel_rfl) (by kernel_rfl)) (by kernel_rfl) (by kernel_rfl) (by kernel_rfl) (door_met os _)) ?_
  intro W base args ds gs before hval0 hW hcnd hsz0 hL _
  have hsz : (DataW.weightsEach Tryz.prog (Tryz.f3.params.toList ++ Rows.eventBackSpec.plain.varTypes Tryz.prog) (ds ++ gs)).all (· ≤ reachBytes) = true := hsz0
  have hval : ∀ (j : Nat) t v, Tryz.f3.params[j]? = some t → args[j]? = some v → Value.okWide Tryz.prog W .any base t v := hval0
  have hW' := hW
  obtain ⟨p, q, hA0, hV, rfl, hfz, hnd⟩ := hW
  have hA : DataW.TrodAll enc Tryz.prog W 0 (fun _ => true) true Tryz.f3.params.toList args.toList ds p := hA0
  rw [Tryz.params3] at hA hval hsz
  obtain ⟨v0, vs0, d0, ds0, p0, q0, hargs, rfl, rfl, h0, r0⟩ := trodAll_cons hA
  obtain ⟨v1, vs1, d1, ds1, p1, q1, rfl, rfl, rfl, h1, r1⟩ := trodAll_cons r0
  obtain ⟨v2, vs2, d2, ds2, p2, q2, rfl, rfl, rfl, h2, r2⟩ := trodAll_cons r1
  obtain ⟨rfl, rfl, rfl⟩ := trodAll_nil r2
  obtain rfl : args = #[v0, v1, v2] := by cases args; simp_all
  obtain ⟨rfl, rfl⟩ := trodVars_none hV
  have k0 := h0
  have lt0 : ∀ x ∈ p0, x.block < W.heap.size := by obtain ⟨m, hm⟩ := k0; exact DataW.trod_lt m _ _ _ hm
  obtain ⟨x0, hx0, g0⟩ := Opens.arg (opSl Tryz.underlying22 ce5 (Nat.succ_pos _) by5 (opI Tryz.underlying5)) h0 (Wt.of hsz (j := 0) rfl rfl)
  obtain ⟨A0, n0, c0, rfl⟩ := okWide_slice Tryz.underlying22 (hval 0 22 v0 rfl rfl)
  obtain ⟨A0', n0', c0', he0, i0⟩ := hx0
  cases (show [Value.slice A0 n0 c0] = [Value.slice A0' n0' c0'] from he0)
  have k1 := h1
  have lt1 : ∀ x ∈ p1, x.block < W.heap.size := by obtain ⟨m, hm⟩ := k1; exact DataW.trod_lt m _ _ _ hm
  obtain ⟨x1, hx1, g1⟩ := Opens.arg (opSl Tryz.underlying23 ce37 (Nat.succ_pos _) by37 op37) h1 (Wt.of hsz (j := 1) rfl rfl)
  obtain ⟨A1, n1, c1, rfl⟩ := okWide_slice Tryz.underlying23 (hval 1 23 v1 rfl rfl)
  obtain ⟨A1', n1', c1', he1, i1⟩ := hx1
  cases (show [Value.slice A1 n1 c1] = [Value.slice A1' n1' c1'] from he1)
  have k2 := h2
  have lt2 : ∀ x ∈ p2, x.block < W.heap.size := by obtain ⟨m, hm⟩ := k2; exact DataW.trod_lt m _ _ _ hm
  obtain ⟨x2, hx2, g2⟩ := Opens.arg (opI Tryz.underlying5) h2 (Wt.of hsz (j := 2) rfl rfl)
  obtain ⟨u2, rfl⟩ := okWide_int Tryz.underlying5 (hval 2 5 v2 rfl rfl)
  cases (show [Value.int .u8 u2] = [Value.int .u8 x2] from hx2)
  clear hA0 hval0 hsz0 hsz
  refine Calls.mono (M.F_law06_EventBack (Z := HeapZ W) (wz := W) x0 x1 x2 A0 n0 c0 A1 n1 c1 (hP x0 x1 x2 g0 g1 g2) i0 i1 (of_laid hL) (L := []) (SH.start W)) ?_
  rintro e W' ⟨v, rfl, Z', wz', rfl, hs, hS⟩
  have bel := SH.below hS hs
  exact ⟨_, rfl, _, _, _, [], _, [], hW', trodAll_mk1 (shut_bool Tryz.underlying4 _), (trodAll_cons_mk (Below.trod laidOut (by kernel_rfl) (of_decide_eq_true (by kernel_rfl)) k0 bel lt0) (trodAll_cons_mk (Below.trod laidOut (by kernel_rfl) (of_decide_eq_true (by kernel_rfl)) k1 bel lt1) (trodAll_cons_mk (Below.trod laidOut (by kernel_rfl) (of_decide_eq_true (by kernel_rfl)) k2 bel lt2) trodAll_mk0))), rfl, bel.frame _, fun h => by cases h⟩
theorem over (hP : Pure) : Rows.eventBackRow.holds Tryz.pinned (OpenSpec.ofChange Rows.eventBackSpec) :=
  OpenClaim.holds_of_wide 3 Tryz.f3 rfl rfl rfl rfl rfl rfl rfl ⟨rfl, rfl, rfl, rfl, rfl⟩ rfl rfl rfl rfl rfl (by kernel_rfl) Tryz.func3 (by kernel_rfl)
    (of_decide_eq_true (by kernel_rfl)) (by unfold Func.isWrapper; first | (rw [if_pos (by decide +kernel)]; kernel_rfl) | (rw [if_neg (by decide +kernel)]; exact ⟨rfl, rfl⟩))
    (fun os started H enc _ => lifted hP os started H enc)
def hrn : Bool × String := Rows.eventBackCard.stood.harness
theorem card (hP : Pure) : Rows.EventBackCardSaid :=
  Claim7.holds_tied_plain_at .later [] [.data] true hrn true
    (over hP) (fun _ h => by cases h) (by kernel_rfl) (fun _ h => by cases h) eventBack_row_tie rfl ⟨rfl, rfl⟩ (by kernel_rfl) rfl
    (fun f fn hf hfn => by
      obtain rfl : f = 3 := Option.some.inj ((show Tryz.prog.funcNamed "headrace/headracelaw06.EventBack" = some 3 by kernel_rfl).symm.trans hf) |>.symm
      obtain rfl : fn = Tryz.f3 := (Option.some.inj (Tryz.func3.symm.trans hfn)).symm
      exact ⟨by kernel_rfl, fun j t ht => by
        rw [Tryz.params3] at ht
        have hm : t ∈ [22, 23, 5] := by simpa using Array.mem_of_getElem? ht
        have hall : ([22, 23, 5].all fun u => !Tryz.prog.wantsStandIn u) = true := by kernel_rfl
        exact (show Tryz.prog.wantsStandIn t = false by simpa using List.all_eq_true.1 hall t hm)⟩)
    (by kernel_rfl)
end Go.Proofs.YthokgnonmcgkcaaGreatDoor.eventBack
namespace Go.Proofs.YthokgnonmcgkcaaGreatDoor.P
open Go Go.RowKit Go.Proofs.YthokgnonmcgkcaaGreatDoor.E Go.Proofs.YthokgnonmcgkcaaGreatDoor.M
set_option linter.unusedVariables false
set_option linter.unusedSectionVars false
theorem at_nat {α : Type} (xs : List α) (n : Nat) : at_ xs (n : Int) = xs[n]? := by simp [at_]
theorem at_int {α : Type} {xs : List α} {i : Int} {n : Nat} {x : α} (hi : i = n) (h : xs[n]? = some x) : at_ xs i = some x := by subst hi; rw [at_nat, h]
theorem cut_nat {α : Type} {xs : List α} {l u : Nat} (h : l ≤ u) (hu : u ≤ xs.length) : cut_ xs (l : Int) (u : Int) = some ((xs.take u).drop l) := by
  unfold cut_; rw [if_pos (by omega)]; simp
theorem chk_pos {α : Type} {p : Prop} [Decidable p] {x : Option α} (h : p) : chk p x = x := if_pos h
theorem w64 {n : Int} (h : -9223372036854775808 ≤ n) (h' : n ≤ 9223372036854775807) : IntKind.i64.wrap n = n := IntWalk.i64_in n ⟨h, h'⟩
theorem u64w {n : Int} (h : 0 ≤ n) (h' : n < 18446744073709551616) : IntKind.u64.wrap n = n := IntWalk.u64_in n ⟨h, by omega⟩
theorem u8w {n : Int} (h : 0 ≤ n) (h' : n < 256) : IntKind.u8.wrap n = n := IntWalk.u8_in n ⟨h, by omega⟩
theorem lt_ {α β : Type} (e : α) (f : α → Option β) : ltt e f = f e := rfl
theorem loop_at {σ τ : Type} {b : σ → Option (σ ⊕ τ)} (f : Nat → σ) {t : τ} : ∀ (n : Nat) (i : Nat), (∀ k, i ≤ k → k < i + n → b (f k) = some (.inl (f (k + 1)))) → b (f (i + n)) = some (.inr t) → loop b (f i) = some t
  | 0, i, _, he => loop_end he
  | n + 1, i, hs, he => (loop_nxt (hs i (Nat.le_refl _) (by omega))).trans (loop_at f n (i + 1) (fun k h1 h2 => hs k (by omega) (by omega)) (by rw [show i + 1 + n = i + (n + 1) by omega]; exact he))
theorem loop_to {σ τ : Type} {b : σ → Option (σ ⊕ τ)} (f : Nat → σ) {t : τ} (n : Nat) (hs : ∀ k, k < n → b (f k) = some (.inl (f (k + 1)))) (he : b (f n) = some (.inr t)) : loop b (f 0) = some t :=
  loop_at f n 0 (fun k _ h => hs k (by omega)) (by simpa using he)
theorem ofInt_nat (n a : Nat) : BitVec.ofInt n (a : Int) = BitVec.ofNat n a := BitVec.ofInt_natCast n a
theorem u64_nat (a : Nat) : IntKind.u64.wrap (a : Int) = ((a % 18446744073709551616 : Nat) : Int) := by
  rw [IntKind.wrap_u64]; omega
theorem u8_nat (a : Nat) : IntKind.u8.wrap (a : Int) = ((a % 256 : Nat) : Int) := by rw [IntKind.wrap_u8]; omega
theorem iand_u64 {a b : Nat} (ha : a < 18446744073709551616) (hb : b < 18446744073709551616) : iand .u64 (a : Int) (b : Int) = ((a &&& b : Nat) : Int) := by
  unfold iand
  rw [ofInt_nat, ofInt_nat, u64_nat]
  have h : a &&& b < 18446744073709551616 := Nat.lt_of_le_of_lt Nat.and_le_left ha
  simp only [BitVec.toNat_and, BitVec.toNat_ofNat, show IntKind.u64.bits = 64 from rfl]
  rw [Nat.mod_eq_of_lt (show a < 2 ^ 64 by omega), Nat.mod_eq_of_lt (show b < 2 ^ 64 by omega), Nat.mod_eq_of_lt h]
theorem iand_u8 {a b : Nat} (ha : a < 256) (hb : b < 256) : iand .u8 (a : Int) (b : Int) = ((a &&& b : Nat) : Int) := by
  unfold iand
  rw [ofInt_nat, ofInt_nat, u8_nat]
  have h : a &&& b < 256 := Nat.lt_of_le_of_lt Nat.and_le_left ha
  simp only [BitVec.toNat_and, BitVec.toNat_ofNat, show IntKind.u8.bits = 8 from rfl]
  rw [Nat.mod_eq_of_lt (show a < 2 ^ 8 by omega), Nat.mod_eq_of_lt (show b < 2 ^ 8 by omega), Nat.mod_eq_of_lt h]
theorem ior_u64 {a b : Nat} (ha : a < 18446744073709551616) (hb : b < 18446744073709551616) : ior .u64 (a : Int) (b : Int) = ((a ||| b : Nat) : Int) := by
  unfold ior
  rw [ofInt_nat, ofInt_nat, u64_nat]
  have h : a ||| b < 2 ^ 64 := Nat.or_lt_two_pow (show a < 2 ^ 64 by omega) (show b < 2 ^ 64 by omega)
  simp only [BitVec.toNat_or, BitVec.toNat_ofNat, show IntKind.u64.bits = 64 from rfl]
  rw [Nat.mod_eq_of_lt (show a < 2 ^ 64 by omega), Nat.mod_eq_of_lt (show b < 2 ^ 64 by omega), Nat.mod_eq_of_lt (show a ||| b < 18446744073709551616 from h)]
theorem ior_u8 {a b : Nat} (ha : a < 256) (hb : b < 256) : ior .u8 (a : Int) (b : Int) = ((a ||| b : Nat) : Int) := by
  unfold ior
  rw [ofInt_nat, ofInt_nat, u8_nat]
  have h : a ||| b < 2 ^ 8 := Nat.or_lt_two_pow (show a < 2 ^ 8 by omega) (show b < 2 ^ 8 by omega)
  simp only [BitVec.toNat_or, BitVec.toNat_ofNat, show IntKind.u8.bits = 8 from rfl]
  rw [Nat.mod_eq_of_lt (show a < 2 ^ 8 by omega), Nat.mod_eq_of_lt (show b < 2 ^ 8 by omega), Nat.mod_eq_of_lt (show a ||| b < 256 from h)]
theorem ixor_u64 {a b : Nat} (ha : a < 18446744073709551616) (hb : b < 18446744073709551616) : ixor .u64 (a : Int) (b : Int) = ((a ^^^ b : Nat) : Int) := by
  unfold ixor
  rw [ofInt_nat, ofInt_nat, u64_nat]
  have h : a ^^^ b < 2 ^ 64 := Nat.xor_lt_two_pow (show a < 2 ^ 64 by omega) (show b < 2 ^ 64 by omega)
  simp only [BitVec.toNat_xor, BitVec.toNat_ofNat, show IntKind.u64.bits = 64 from rfl]
  rw [Nat.mod_eq_of_lt (show a < 2 ^ 64 by omega), Nat.mod_eq_of_lt (show b < 2 ^ 64 by omega), Nat.mod_eq_of_lt (show a ^^^ b < 18446744073709551616 from h)]
theorem two_pow (n : Nat) : (2 : Int) ^ n = ((2 ^ n : Nat) : Int) := (Int.natCast_pow 2 n).symm
theorem ishr_nat {k : IntKind} (a n : Nat) (h : n ≤ k.bits) : ishr k (a : Int) (n : Int) = ((a / 2 ^ n : Nat) : Int) := by
  unfold ishr
  rw [Int.toNat_natCast, Nat.min_eq_left h, two_pow, Int.fdiv_eq_ediv_of_nonneg _ (Int.natCast_nonneg _)]
  rfl
theorem ishl_u64 (a n : Nat) (h : n ≤ 64) : ishl .u64 (a : Int) (n : Int) = ((a * 2 ^ n % 18446744073709551616 : Nat) : Int) := by
  unfold ishl
  rw [Int.toNat_natCast, show min n IntKind.u64.bits = n from Nat.min_eq_left h, two_pow, ← Int.natCast_mul, u64_nat]
theorem ishl_u8 (a n : Nat) (h : n ≤ 8) : ishl .u8 (a : Int) (n : Int) = ((a * 2 ^ n % 256 : Nat) : Int) := by
  unfold ishl
  rw [Int.toNat_natCast, show min n IntKind.u8.bits = n from Nat.min_eq_left h, two_pow, ← Int.natCast_mul, u8_nat]
theorem or_top {a n : Nat} (h : a < 2 ^ n) (b : Nat) : a ||| (b * 2 ^ n) = a + b * 2 ^ n := by
  rw [Nat.or_comm, Nat.mul_comm, ← Nat.two_pow_add_eq_or_of_lt h, Nat.add_comm]
end Go.Proofs.YthokgnonmcgkcaaGreatDoor.P
namespace Go.Proofs.YthokgnonmcgkcaaGreatDoor.P
open Go Go.RowKit Go.Proofs.YthokgnonmcgkcaaGreatDoor.E Go.Proofs.YthokgnonmcgkcaaGreatDoor.M
set_option linter.unusedVariables false
set_option linter.unusedSectionVars false
def uv (n : Nat) : List Int := if h : n < 128 then [(n : Int)] else ((n % 128 + 128 : Nat) : Int) :: uv (n / 128)
termination_by n
decreasing_by omega
theorem uv_small {n : Nat} (h : n < 128) : uv n = [(n : Int)] := by rw [uv, dif_pos h]
theorem uv_large {n : Nat} (h : ¬ n < 128) : uv n = ((n % 128 + 128 : Nat) : Int) :: uv (n / 128) := by rw [uv, dif_neg h]
theorem uv_length : ∀ (k n : Nat), n < 128 ^ (k + 1) → (uv n).length ≤ k + 1
  | 0, n, h => by rw [uv_small (by simpa using h)]; simp
  | k + 1, n, h => by
    by_cases hn : n < 128
    · rw [uv_small hn]; simp
    · rw [uv_large hn, List.length_cons]
      have := uv_length k (n / 128) (by rw [Nat.pow_succ] at h; exact Nat.div_lt_of_lt_mul (by rw [Nat.mul_comm]; exact h))
      omega
theorem uv_length64 {n : Nat} (h : n < 18446744073709551616) : (uv n).length ≤ 10 := uv_length 9 n (by omega)
set_option maxRecDepth 100000 in
theorem or_128 : ∀ m : Fin 256, (m.val ||| 128) = m.val % 128 + 128 := by decide
theorem Uint_app (n : Nat) : ∀ (a0 : List Int), n < 18446744073709551616 → a0.length + (uv n).length ≤ 140737488355328 → column_Uint a0 (n : Int) = some (a0 ++ uv n) := by
  induction n using Nat.strongRecOn with
  | _ n ih =>
    intro a0 h hl
    unfold column_Uint
    by_cases hn : n < 128
    · rw [loop_end (t := (a0, (n : Int))) (by
        show column_Uint_l1 a0 (n : Int) = _
        unfold column_Uint_l1
        rw [if_neg (by simp only [decide_eq_true_eq]; omega)])]
      simp only [Option.bind_some]
      unfold column_Uint_x1_0 column_Uint_b1
      rw [uv_small hn] at hl ⊢
      rw [lt_, u8w (by omega) (by omega), chk_pos (by simpa using hl)]
    · have hl' := hl
      rw [uv_large hn, List.length_cons] at hl'
      have e1 : IntKind.u8.wrap (n : Int) = ((n % 256 : Nat) : Int) := u8_nat n
      have e2 : ior .u8 ((n % 256 : Nat) : Int) 128 = ((n % 128 + 128 : Nat) : Int) := by
        have := ior_u8 (a := n % 256) (b := 128) (by omega) (by omega)
        rw [show ((128 : Nat) : Int) = 128 from rfl] at this
        rw [this, or_128 ⟨n % 256, by omega⟩]
        simp only
        omega
      have e3 : ishr .u64 (n : Int) 7 = ((n / 128 : Nat) : Int) := ishr_nat (k := .u64) n 7 (by decide)
      rw [loop_nxt (s' := (a0 ++ [((n % 128 + 128 : Nat) : Int)], ((n / 128 : Nat) : Int))) (by
        show column_Uint_l1 a0 (n : Int) = _
        unfold column_Uint_l1
        rw [if_pos (by simp only [decide_eq_true_eq]; omega), lt_, e1, lt_, e2, chk_pos (by simp; omega), lt_, e3])]
      have := ih (n / 128) (by omega) (a0 ++ [((n % 128 + 128 : Nat) : Int)]) (by omega) (by simp; omega)
      unfold column_Uint at this
      rw [this, uv_large hn]
      simp
theorem rUint_k : ∀ (k n : Nat), n < 128 ^ (k + 1) → n < 18446744073709551616 → r03_Uint_k (k + 1) (n : Int) = some (uv n)
  | k, n, h, h64 => by
    show r03_Uint_s (r03_Uint_k k) (n : Int) = _
    unfold r03_Uint_s
    by_cases hn : n < 128
    · rw [if_pos (by simp only [decide_eq_true_eq]; omega), lt_, u8w (by omega) (by omega), uv_small hn]
    · rw [if_neg (by simp only [decide_eq_true_eq]; omega)]
      match k, h with
      | 0, h => exact absurd (by simpa using h) hn
      | k + 1, h =>
        have e1 : IntKind.u64.wrap ((n : Int).tmod 128 + 128) = ((n % 128 + 128 : Nat) : Int) := by
          rw [show (n : Int).tmod 128 + 128 = ((n % 128 + 128 : Nat) : Int) from rfl, u64w (by omega) (by omega)]
        have e2 : IntKind.u64.wrap ((n : Int).tdiv 128) = ((n / 128 : Nat) : Int) := by
          rw [show (n : Int).tdiv 128 = ((n / 128 : Nat) : Int) from rfl, u64w (by omega) (by omega)]
        rw [lt_, e1, lt_, u8w (by omega) (by omega), lt_, e2, rUint_k k (n / 128) (by rw [Nat.pow_succ] at h; exact Nat.div_lt_of_lt_mul (by rw [Nat.mul_comm]; exact h)) (by omega)]
        simp only [Option.bind_some]
        have := uv_length64 (n := n / 128) (by omega)
        rw [chk_pos (by simp; omega), uv_large hn]
        rfl
theorem rUint_eq (n : Nat) (h : n < 18446744073709551616) : r03_Uint (n : Int) = some (uv n) := rUint_k 11 n (by omega) h
def zz (i : Int) : Nat := if i < 0 then (-(i + 1)).toNat * 2 + 1 else i.toNat * 2
def uz (n : Nat) : Int := if n % 2 = 1 then -((n / 2 : Nat) : Int) - 1 else ((n / 2 : Nat) : Int)
theorem uz_zz (i : Int) : uz (zz i) = i := by unfold uz zz; split <;> split <;> omega
def i64 (i : Int) : Prop := -9223372036854775808 ≤ i ∧ i ≤ 9223372036854775807
theorem zz_lt {i : Int} (h : i64 i) : zz i < 18446744073709551616 := by
  unfold i64 at h
  unfold zz; split <;> omega
theorem i64_wrap (x : Int) : i64 (IntKind.i64.wrap x) := by
  rw [IntWalk.i64_left]; unfold wrap64 i64; omega
theorem xor_ones {a : Nat} (h : a < 18446744073709551616) : ixor .u64 (a : Int) 18446744073709551615 = ((18446744073709551615 - a : Nat) : Int) := by
  show IntKind.u64.wrap (((BitVec.ofInt 64 (a : Int) ^^^ BitVec.allOnes 64).toNat : Nat) : Int) = _
  rw [ofInt_nat, BitVec.xor_allOnes, u64_nat, BitVec.toNat_not, BitVec.toNat_ofNat, Nat.mod_eq_of_lt (show a < 2 ^ 64 by omega)]
  omega
theorem zz_eq {i : Int} (h : i64 i) : ixor .u64 (IntKind.u64.wrap (ishl .i64 i 1)) (IntKind.u64.wrap (ishr .i64 i 63)) = (zz i : Int) := by
  unfold i64 at h
  have e1 : ishl .i64 i 1 = IntKind.i64.wrap (i * 2) := rfl
  have e2 : ishr .i64 i 63 = if i < 0 then -1 else 0 := by
    unfold ishr
    rw [show (63 : Int).toNat = 63 from rfl, show min 63 IntKind.i64.bits = 63 from rfl, Int.fdiv_eq_ediv_of_nonneg _ (by decide)]
    split <;> omega
  rw [e1, e2]
  have e3 : IntKind.u64.wrap (IntKind.i64.wrap (i * 2)) = (i * 2) % 18446744073709551616 := by
    rw [IntKind.wrap_u64, IntWalk.i64_left]; unfold wrap64; omega
  rw [e3]
  unfold zz
  by_cases hi : i < 0
  · rw [if_pos hi, if_pos hi, show IntKind.u64.wrap (-1) = 18446744073709551615 from rfl]
    obtain ⟨m, hm⟩ : ∃ m : Nat, (i * 2) % 18446744073709551616 = (m : Int) := ⟨((i * 2) % 18446744073709551616).toNat, by omega⟩
    rw [hm, xor_ones (by omega)]
    omega
  · rw [if_neg hi, if_neg hi, show IntKind.u64.wrap 0 = ((0 : Nat) : Int) from rfl]
    obtain ⟨m, hm⟩ : ∃ m : Nat, (i * 2) % 18446744073709551616 = (m : Int) := ⟨((i * 2) % 18446744073709551616).toNat, by omega⟩
    rw [hm, ixor_u64 (by omega) (by omega), Nat.xor_zero]
    omega
theorem Int_app {i : Int} (h : i64 i) (a0 : List Int) (hl : a0.length + 10 ≤ 140737488355328) : column_Int a0 i = some (a0 ++ uv (zz i)) := by
  unfold column_Int
  have := uv_length64 (zz_lt h)
  simp only [lt_, zz_eq h, Uint_app _ a0 (zz_lt h) (by omega), Option.bind_some]
theorem rInt_eq {i : Int} (h : i64 i) : r03_Int i = some (uv (zz i)) := by
  have h' := h
  unfold i64 at h'
  unfold r03_Int
  by_cases hi : i < 0
  · rw [if_pos (by simpa using hi)]
    simp only [lt_]
    rw [w64 (n := i + 1) (by omega) (by omega), w64 (n := 0 - (i + 1)) (by omega) (by omega), u64w (n := 0 - (i + 1)) (by omega) (by omega), u64w (n := (0 - (i + 1)) * 2) (by omega) (by omega), u64w (by omega) (by omega),
      show (0 - (i + 1)) * 2 + 1 = (zz i : Int) by unfold zz; rw [if_pos hi]; omega, rUint_eq _ (zz_lt h)]
    rfl
  · rw [if_neg (by simpa using hi)]
    simp only [lt_]
    rw [u64w (n := i) (by omega) (by omega), u64w (by omega) (by omega), show i * 2 = (zz i : Int) by unfold zz; rw [if_neg hi]; omega, rUint_eq _ (zz_lt h)]
    rfl
theorem Text_app (s : List UInt8) (a0 : List Int) (hs : s.length ≤ 9223372036854775807) (hl : a0.length + s.length + 10 ≤ 140737488355328) : column_Text a0 s = some (a0 ++ uv s.length ++ stb s) := by
  unfold column_Text
  have := uv_length64 (n := s.length) (by omega)
  rw [lt_, u64w (by omega) (by omega), Uint_app _ a0 (by omega) (by omega)]
  simp only [Option.bind_some]
  rw [chk_pos (by simp; omega)]
theorem rText_eq (s : List UInt8) (hl : s.length + 10 ≤ 140737488355328) : r03_Text s = some (uv s.length ++ stb s) := by
  unfold r03_Text
  have := uv_length64 (n := s.length) (by omega)
  have hst : (stb s).length = s.length := by simp [stb]
  rw [lt_, u64w (by omega) (by omega), rUint_eq _ (by omega)]
  simp only [Option.bind_some]
  rw [chk_pos (by simp only [maxLen]; omega), chk_pos (by omega)]
def Bs (xs : List Int) : Prop := ∀ b ∈ xs, 0 ≤ b ∧ b < 256
theorem Bs.nil : Bs [] := fun _ h => by cases h
theorem Bs.cons {b : Int} {xs : List Int} (h : Bs (b :: xs)) : (0 ≤ b ∧ b < 256) ∧ Bs xs := ⟨h b List.mem_cons_self, fun c hc => h c (List.mem_cons_of_mem _ hc)⟩
theorem Bs.mk {b : Int} {xs : List Int} (hb : 0 ≤ b ∧ b < 256) (h : Bs xs) : Bs (b :: xs) := fun c hc => by
  rcases List.mem_cons.1 hc with rfl | hc
  · exact hb
  · exact h c hc
theorem Bs.app {xs ys : List Int} (h : Bs xs) (h' : Bs ys) : Bs (xs ++ ys) := fun c hc => (List.mem_append.1 hc).elim (h c) (h' c)
theorem Bs.l {xs ys : List Int} (h : Bs (xs ++ ys)) : Bs xs := fun c hc => h c (List.mem_append.2 (.inl hc))
theorem Bs.r {xs ys : List Int} (h : Bs (xs ++ ys)) : Bs ys := fun c hc => h c (List.mem_append.2 (.inr hc))
theorem Bs.drop {xs : List Int} (h : Bs xs) (n : Nat) : Bs (xs.drop n) := fun c hc => h c (List.mem_of_mem_drop hc)
theorem Bs.take {xs : List Int} (h : Bs xs) (n : Nat) : Bs (xs.take n) := fun c hc => h c (List.mem_of_mem_take hc)
theorem Bs.uv (n : Nat) : Bs (uv n) := by
  induction n using Nat.strongRecOn with
  | _ n ih =>
    by_cases hn : n < 128
    · rw [uv_small hn]; exact Bs.mk (by omega) Bs.nil
    · rw [uv_large hn]; exact Bs.mk (by omega) (ih _ (by omega))
theorem Bs.stb (s : List UInt8) : Bs (stb s) := by
  intro c hc
  unfold E.stb at hc
  obtain ⟨b, _, rfl⟩ := List.mem_map.1 hc
  have := b.toNat_lt
  omega
end Go.Proofs.YthokgnonmcgkcaaGreatDoor.P
