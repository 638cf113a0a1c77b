/- Texts of the claim, joined: what it uses of Mrs17, Dch, Mch, DlCommitFalls, MlCommitFalls, LCommitFalls, DlCommitPlays, DlCommitMissing, DlCommitTwins, Qa. -/
import Derived.Test.YtffdckhgkhhbjaaGreatDoorZe
import Derived.Test.YtffdckhgkhhbjaaGreatDoorCards
import Derived.Test.YtffdckhgkhhbjaaGreatDoorTie
import Derived.SevenTiedAt
import Derived.LaidMore
import Derived.OpenShut
import Derived.Stop.Joined
import Derived.ProofKit
import Derived.IntWalk
namespace Go.Proofs.YtffdckhgkhhbjaaGreatDoor.M
open Go Go.RowKit Go.Proofs.YtffdckhgkhhbjaaGreatDoor.E
set_option linter.unusedVariables false
set_option maxRecDepth 100000
set_option maxHeartbeats 4000000
set_option linter.unusedSimpArgs false
theorem F_r12_Same {r : World} {L : List HP} {w : World} (a0 : S59) (a1 : S59) {y : (Bool)} (G : r12_Same a0 a1 = some y) (X : SH r (L) w) :
  Ret Tryz.prog 59 #[.agg #[.int .u64 a0.f0, .float .f64 a0.f1, .bool a0.f2, .float .f64 a0.f3, .float .f64 a0.f4], .agg #[.int .u64 a1.f0, .float .f64 a1.f1, .bool a1.f2, .float .f64 a1.f3, .float .f64 a1.f4]] w fun v w' => v = .bool y ∧ SH r (L) w' := by
 refine enter Tryz.func59 rfl Tryz.ntmps59 [(0, .agg #[.int .u64 a0.f0, .float .f64 a0.f1, .bool a0.f2, .float .f64 a0.f3, .float .f64 a0.f4]), (1, .agg #[.int .u64 a1.f0, .float .f64 a1.f1, .bool a1.f2, .float .f64 a1.f3, .float .f64 a1.f4])] rfl (by simp) ?_
 intro U J Qf hQ hQn
 unfold r12_Same at G
 refine ws fun K100 hK100 => ?_
 refine x_box' J X (fun g101 U w X J => ?_) rfl
 refine x_box' J X (fun g102 U w X J => ?_) rfl
 refine x_m J rfl fun U J => ?_
 refine wn (hK100 _ _ ?_)
 refine ws fun K103 hK103 => ?_
 refine x_fab' fa59_0 J (fun U J => ?_) rfl
 refine x_ld' uu30 (X.cell 1 rfl 0 _ rfl) J (fun U J => ?_) rfl
 refine x_fab' fa59_0 J (fun U J => ?_) rfl
 refine x_ld' uu30 (X.cell 0 rfl 0 _ rfl) J (fun U J => ?_) rfl
 refine x_v J (r_eqI rfl (J.ev rfl) (J.ev rfl)) rfl fun U J => ?_
 refine x_m J rfl fun U J => ?_
 refine bcase (b := a0.f0 == a1.f0) (fun hb104 => ?_) fun hb104 => ?_
 ·replace G := ift hb104 G
  refine x_on' hb104 J ?_ rfl
  refine x_fab' fa59_1 J (fun U J => ?_) rfl
  refine x_on' hb104 J ?_ rfl
  refine x_ld' uu57 (X.cell 1 rfl 1 _ rfl) J (fun U J => ?_) rfl
  refine x_on' hb104 J ?_ rfl
  refine x_fab' fa59_1 J (fun U J => ?_) rfl
  refine x_on' hb104 J ?_ rfl
  refine x_ld' uu57 (X.cell 0 rfl 1 _ rfl) J (fun U J => ?_) rfl
  refine x_on' hb104 J ?_ rfl
  obtain ⟨y105, h106, G⟩ := bnd G
  refine x_call' en75 J (F_r01_Same (L := blk g102 59 [.int .u64 a1.f0, .float .f64 a1.f1, .bool a1.f2, .float .f64 a1.f3, .float .f64 a1.f4] :: blk g101 59 [.int .u64 a0.f0, .float .f64 a0.f1, .bool a0.f2, .float .f64 a0.f3, .float .f64 a0.f4] :: L) a0.f1 a1.f1 h106 X) (fun v U w hR J => ?_) rfl
  obtain ⟨rfl, X⟩ := hR
  refine x_pickt' hb104 J (fun U J => ?_) rfl
  refine x_m J rfl fun U J => ?_
  refine bcase (b := y105) (fun hb107 => ?_) fun hb107 => ?_
  ·replace G := ift hb107 G
   refine x_on' hb107 J ?_ rfl
   refine x_fab' fa59_2 J (fun U J => ?_) rfl
   refine x_on' hb107 J ?_ rfl
   refine x_ld' uu4 (X.cell 1 rfl 2 _ rfl) J (fun U J => ?_) rfl
   refine x_on' hb107 J ?_ rfl
   refine x_fab' fa59_2 J (fun U J => ?_) rfl
   refine x_on' hb107 J ?_ rfl
   refine x_ld' uu4 (X.cell 0 rfl 2 _ rfl) J (fun U J => ?_) rfl
   refine x_on' hb107 J ?_ rfl
   refine x_v J (r_eqB uu4 rfl (J.ev rfl) (J.ev rfl)) rfl fun U J => ?_
   refine x_pickt' hb107 J (fun U J => ?_) rfl
   refine x_m J rfl fun U J => ?_
   refine bcase (b := a0.f2 == a1.f2) (fun hb108 => ?_) fun hb108 => ?_
   ·replace G := ift hb108 G
    refine x_on' hb108 J ?_ rfl
    refine x_fab' fa59_3 J (fun U J => ?_) rfl
    refine x_on' hb108 J ?_ rfl
    refine x_ld' uu57 (X.cell 1 rfl 3 _ rfl) J (fun U J => ?_) rfl
    refine x_on' hb108 J ?_ rfl
    refine x_fab' fa59_3 J (fun U J => ?_) rfl
    refine x_on' hb108 J ?_ rfl
    refine x_ld' uu57 (X.cell 0 rfl 3 _ rfl) J (fun U J => ?_) rfl
    refine x_on' hb108 J ?_ rfl
    obtain ⟨y109, h110, G⟩ := bnd G
    refine x_call' en75 J (F_r01_Same (L := blk g102 59 [.int .u64 a1.f0, .float .f64 a1.f1, .bool a1.f2, .float .f64 a1.f3, .float .f64 a1.f4] :: blk g101 59 [.int .u64 a0.f0, .float .f64 a0.f1, .bool a0.f2, .float .f64 a0.f3, .float .f64 a0.f4] :: L) a0.f3 a1.f3 h110 X) (fun v U w hR J => ?_) rfl
    obtain ⟨rfl, X⟩ := hR
    refine x_pickt' hb108 J (fun U J => ?_) rfl
    refine x_m J rfl fun U J => ?_
    refine bcase (b := y109) (fun hb111 => ?_) fun hb111 => ?_
    ·replace G := ift hb111 G
     refine x_on' hb111 J ?_ rfl
     refine x_fab' fa59_4 J (fun U J => ?_) rfl
     refine x_on' hb111 J ?_ rfl
     refine x_ld' uu57 (X.cell 1 rfl 4 _ rfl) J (fun U J => ?_) rfl
     refine x_on' hb111 J ?_ rfl
     refine x_fab' fa59_4 J (fun U J => ?_) rfl
     refine x_on' hb111 J ?_ rfl
     refine x_ld' uu57 (X.cell 0 rfl 4 _ rfl) J (fun U J => ?_) rfl
     refine x_on' hb111 J ?_ rfl
     obtain ⟨y112, h113, G⟩ := bnd G
     refine x_call' en75 J (F_r01_Same (L := blk g102 59 [.int .u64 a1.f0, .float .f64 a1.f1, .bool a1.f2, .float .f64 a1.f3, .float .f64 a1.f4] :: blk g101 59 [.int .u64 a0.f0, .float .f64 a0.f1, .bool a0.f2, .float .f64 a0.f3, .float .f64 a0.f4] :: L) a0.f4 a1.f4 h113 X) (fun v U w hR J => ?_) rfl
     obtain ⟨rfl, X⟩ := hR
     refine x_pickt' hb111 J (fun U J => ?_) rfl
     refine x_m J rfl fun U J => ?_
     refine wn (hK103 _ _ ?_)
     refine wp_ret ?_
     replace X := X.drop 0 |>.drop 0
     cases G
     refine hQ _ _ ?_
     refine lv Tryz.results59 J rfl ?_
     exact ⟨rfl, X⟩
    replace G := iff' hb111 G
    refine xO 5 hb111 J rfl fun U J => ?_
    refine x_pickf' hb111 J (fun U J => ?_) rfl
    refine x_m J rfl fun U J => ?_
    refine wn (hK103 _ _ ?_)
    refine wp_ret ?_
    replace X := X.drop 0 |>.drop 0
    cases G
    refine hQ _ _ ?_
    refine lv Tryz.results59 J rfl ?_
    exact ⟨rfl, X⟩
   replace G := iff' hb108 G
   refine xO 5 hb108 J rfl fun U J => ?_
   refine x_pickf' hb108 J (fun U J => ?_) rfl
   refine x_m J rfl fun U J => ?_
   refine xO 5 rfl J rfl fun U J => ?_
   refine x_pickf' rfl J (fun U J => ?_) rfl
   refine x_m J rfl fun U J => ?_
   refine wn (hK103 _ _ ?_)
   refine wp_ret ?_
   replace X := X.drop 0 |>.drop 0
   cases G
   refine hQ _ _ ?_
   refine lv Tryz.results59 J rfl ?_
   exact ⟨rfl, X⟩
  replace G := iff' hb107 G
  refine xO 5 hb107 J rfl fun U J => ?_
  refine x_pickf' hb107 J (fun U J => ?_) rfl
  refine x_m J rfl fun U J => ?_
  refine xO 5 rfl J rfl fun U J => ?_
  refine x_pickf' rfl J (fun U J => ?_) rfl
  refine x_m J rfl fun U J => ?_
  refine xO 5 rfl J rfl fun U J => ?_
  refine x_pickf' rfl J (fun U J => ?_) rfl
  refine x_m J rfl fun U J => ?_
  refine wn (hK103 _ _ ?_)
  refine wp_ret ?_
  replace X := X.drop 0 |>.drop 0
  cases G
  refine hQ _ _ ?_
  refine lv Tryz.results59 J rfl ?_
  exact ⟨rfl, X⟩
 replace G := iff' hb104 G
 refine xO 5 hb104 J rfl fun U J => ?_
 refine x_pickf' hb104 J (fun U J => ?_) rfl
 refine x_m J rfl fun U J => ?_
 refine xO 5 rfl J rfl fun U J => ?_
 refine x_pickf' rfl J (fun U J => ?_) rfl
 refine x_m J rfl fun U J => ?_
 refine xO 5 rfl J rfl fun U J => ?_
 refine x_pickf' rfl J (fun U J => ?_) rfl
 refine x_m J rfl fun U J => ?_
 refine xO 5 rfl J rfl fun U J => ?_
 refine x_pickf' rfl J (fun U J => ?_) rfl
 refine x_m J rfl fun U J => ?_
 refine wn (hK103 _ _ ?_)
 refine wp_ret ?_
 replace X := X.drop 0 |>.drop 0
 cases G
 refine hQ _ _ ?_
 refine lv Tryz.results59 J rfl ?_
 exact ⟨rfl, X⟩
theorem F_r17_Same {r : World} {L : List HP} {w : World} (a0 : (List S63)) (a1 : (List S63)) (A0 : Option Addr) (n0 : Nat) (c0 : Nat) (A1 : Option Addr) (n1 : Nat) (c1 : Nat) {y : (Bool)} (G : r17_Same a0 a1 = some y) (ha0 : RdL L k63 A0 n0 c0 a0) (ha1 : RdL L k63 A1 n1 c1 a1) (X : SH r (L) w) :
  Ret Tryz.prog 31 #[.slice A0 n0 c0, .slice A1 n1 c1] w fun v w' => v = .bool y ∧ SH r (L) w' := by
 refine enter Tryz.func31 rfl Tryz.ntmps31 [(0, .slice A0 n0 c0), (1, .slice A1 n1 c1)] rfl (by simp) ?_
 intro U J Qf hQ hQn
 unfold r17_Same at G
 refine ws fun K100 hK100 => ?_
 refine x_m J rfl fun U J => ?_
 refine wn (hK100 _ _ ?_)
 refine wp_seq_k fun K101 hK101 => ?_
 refine ws fun K102 hK102 => ?_
 refine x_m J rfl fun U J => ?_
 refine x_len' uu31 (X.rdl 0 ha0 rfl).2.1 J (fun U J => ?_) rfl
 refine x_m J rfl fun U J => ?_
 refine x_len' uu31 (X.rdl 0 ha1 rfl).2.1 J (fun U J => ?_) rfl
 refine x_v J (r_neI rfl (J.ev rfl) (J.ev rfl)) rfl fun U J => ?_
 refine wn (hK102 _ _ ?_)
 refine c_if J rfl (fun hb103 => ?_) fun hb103 => ?_
 ·replace G := ift hb103 G
  refine ws fun K104 hK104 => ?_
  refine x_m J rfl fun U J => ?_
  refine wn (hK104 _ _ ?_)
  refine wp_ret ?_
  cases G
  refine hQ _ _ ?_
  refine lv Tryz.results31 J rfl ?_
  exact ⟨rfl, X⟩
 replace G := iff' hb103 G
 refine wp_skip ?_
 refine hK101 _ _ ?_
 refine wp_seq_k fun K105 hK105 => ?_
 refine ws fun K106 hK106 => ?_
 refine x_m J rfl fun U J => ?_
 refine wn (hK106 _ _ ?_)
 refine wp_block_k fun Kx107 hKx107 => ?_
 have hb1 : r17_Same_b1 = some y → ∀ (U : Act) (w : World), FR 87 [] U [] → SH r (L) w → Kx107 U w := by
  intro G U w J X
  unfold r17_Same_b1 at G
  refine hKx107 _ _ ?_
  refine hK105 _ _ ?_
  refine ws fun K108 hK108 => ?_
  refine x_m J rfl fun U J => ?_
  refine wn (hK108 _ _ ?_)
  refine wp_ret ?_
  cases G
  refine hQ _ _ ?_
  refine lv Tryz.results31 J rfl ?_
  exact ⟨rfl, X⟩
 obtain ⟨t109, hl109, G⟩ := bnd G
 have hR109 := G
 have hx109_0 : (.inl ()) = t109 → ∀ (U : Act) (w : World), FR 87 [] U [] → SH r (L) w → Kx107 U w := by
  intro ht U w J X
  subst ht
  replace G : r17_Same_x1_0 = some y := G
  unfold r17_Same_x1_0 at G
  exact hb1 G U w (J.sub _ rfl) X
 refine wp_loop_fn hl109 (fun s U w => FR 87 [] U [(0, .slice A0 n0 c0), (1, .slice A1 n1 c1), (5, .int .i64 s)] ∧ SH r (L) w) ⟨J.sub _ rfl, X⟩ ?_
 intro N109 s109 o109 G N109_ T109_ U w hLab
 obtain ⟨x110, rfl⟩ : ∃ q, q = s109 := ⟨_, rfl⟩
 replace G : r17_Same_l1 a0 a1 x110 = some o109 := G
 unfold r17_Same_l1 at G
 try dsimp only at hLab
 obtain ⟨J, X⟩ := hLab
 refine wp_seq_k fun K111 hK111 => ?_
 refine ws fun K112 hK112 => ?_
 refine x_m J rfl fun U J => ?_
 refine x_m J rfl fun U J => ?_
 refine x_len' uu31 (X.rdl 0 ha0 rfl).2.1 J (fun U J => ?_) rfl
 refine x_v J (r_ltI rfl (J.ev rfl) (J.ev rfl)) rfl fun U J => ?_
 refine wn (hK112 _ _ ?_)
 refine c_if J rfl (fun hb113 => ?_) fun hb113 => ?_
 ·replace G := ift hb113 G
  refine wp_skip ?_
  refine hK111 _ _ ?_
  refine wp_seq_k fun K114 hK114 => ?_
  refine wp_block_k fun Kx115 hKx115 => ?_
  refine wp_seq_k fun K116 hK116 => ?_
  have hj1 : ∀ (b117 : Bool), r17_Same_j1 x110 b117 = some o109 → ∀ (U : Act) (w : World), FR 87 [] U [(0, .slice A0 n0 c0), (1, .slice A1 n1 c1), (5, .int .i64 x110), (86, .bool b117)] → SH r (L) w → K116 U w := by
   intro b117 G U w J X
   unfold r17_Same_j1 at G
   refine hK116 _ _ ?_
   refine c_if J rfl (fun hb118 => ?_) fun hb118 => ?_
   ·replace G := ift hb118 G
    refine ws fun K119 hK119 => ?_
    refine x_m J rfl fun U J => ?_
    refine wn (hK119 _ _ ?_)
    refine wp_ret ?_
    cases G
    have ht := T109_ _ rfl
    subst ht
    replace G := hR109
    replace G : some false = some y := G
    cases G
    refine hQ _ _ ?_
    refine lv Tryz.results31 J rfl ?_
    exact ⟨rfl, X⟩
   replace G := iff' hb118 G
   refine wp_skip ?_
   refine hKx115 _ _ ?_
   refine hK114 _ _ ?_
   refine wp_reg ?_
   refine x_m J rfl fun U J => ?_
   obtain ⟨x120, h121, G⟩ := ltt_ G
   refine x_v (v := .int .i64 x120) J (rv_i h121 (r_add rfl (J.ev rfl) (J.ev rfl))) rfl fun U J => ?_
   refine x_m J rfl fun U J => ?_
   refine wpList_nil ?_
   cases G
   exact ⟨_, N109_ _ rfl, J.sub _ rfl, X⟩
  refine wp_draw [0, 0, 3, 7, 15, 0, 0, 96, 224, 480, 1023, 2047, 4095, 4095, 16383, 32767, 65535, 4095, 4095, 397311, 921599, 1970175, 4194303, 8388607, 16777215, 33554431, 33554431, 134217727, 268435455, 536870911, 1073741823, 33554431, 33554431, 6476005375, 15065939967, 32245809151, 66605547519, 137438953471, 274877906943, 549755813887, 1099511627775, 1099511627775, 4398046511103, 8796093022207, 17592186044415, 35184372088831, 1099511627775, 1099511627775, 212205744160767, 493680720871423, 1056630674292735, 2182530581135359, 4503599627370495, 9007199254740991, 18014398509481983, 36028797018963967, 36028797018963967, 144115188075855871, 288230376151711743, 576460752303423487, 1152921504606846975, 36028797018963967, 36028797018963967, 6953557824660045823, 16176929861514821631, 34623673935224373247, 71517162082643476479, 147573952589676412927, 295147905179352825855, 590295810358705651711] [67] rfl J X (by kernel_rfl) (by kernel_rfl) (by kernel_rfl) (by kernel_rfl) fun w X => ?_
  obtain ⟨x122, h123, G⟩ := bnd G
  obtain ⟨cs, hV, hc124⟩ := el (X.rdl 0 ha0 rfl) h123
  obtain rfl := hV
  obtain ⟨x125, h126, G⟩ := bnd G
  obtain ⟨cs, hV, hc127⟩ := el (X.rdl 0 ha1 rfl) h126
  obtain rfl := hV
  refine bcase (b := !(x122.f0 == x125.f0)) (fun hb128 => ?_) fun hb128 => ?_
  ·replace G := ift hb128 G
   refine ⟨[(0, .slice A0 n0 c0), (1, .int .i64 x110), (2, .pointer (some (ea A0 (x110.toNat * 10)))), (3, .pointer (some (ea A0 (x110.toNat * 10)))), (4, .bool x122.f0), (5, .slice A1 n1 c1), (6, .int .i64 x110), (7, .pointer (some (ea A1 (x110.toNat * 10)))), (8, .pointer (some (ea A1 (x110.toNat * 10)))), (9, .bool x125.f0), (10, .bool (!(x122.f0 == x125.f0))), (11, .bool (!(x122.f0 == x125.f0))), (12, undef), (13, undef), (14, undef), (15, undef), (16, undef), (17, undef), (18, undef), (19, undef), (20, undef), (21, undef), (22, undef), (23, .bool true), (24, .bool true), (25, undef), (26, undef), (27, undef), (28, undef), (29, undef), (30, undef), (31, undef), (32, undef), (33, undef), (34, undef), (35, undef), (36, undef), (37, undef), (38, .bool true), (39, .bool true), (40, undef), (41, undef), (42, undef), (43, undef), (44, undef), (45, undef), (46, undef), (47, undef), (48, undef), (49, undef), (50, undef), (51, undef), (52, undef), (53, .bool true), (54, .bool true), (55, undef), (56, undef), (57, undef), (58, undef), (59, undef), (60, undef), (61, undef), (62, undef), (63, undef), (64, undef), (65, undef), (66, undef)], ?_⟩
   refine dF [0, 1, 2, 3, 4, 5, 6, 7, 8, 9, 10, 11, 12, 13, 14, 15, 16, 17, 18, 19, 20, 21, 22, 23, 24, 25, 26, 27, 28, 29, 30, 31, 32, 33, 34, 35, 36, 37, 38, 39, 40, 41, 42, 43, 44, 45, 46, 47, 48, 49, 50, 51, 52, 53, 54, 55, 56, 57, 58, 59, 60, 61, 62, 63, 64, 65, 66] [67] (by kernel_rfl) ⟨pm rfl, pm rfl, pt [(17, .slice A0 n0 c0), (18, .int .i64 x110)] rfl (fun U J => y_ia uu31 sz63 (X.rdl 0 ha0 rfl) h123 J rfl rfl rfl), pt [(19, .pointer (some (ea A0 (x110.toNat * 10))))] rfl (fun U J => y_fae (m := x110.toNat * 10) fa63_0 J rfl rfl), pt [(20, .pointer (some (ea A0 (x110.toNat * 10))))] rfl (fun U J => y_ld uu4 (hc124 0 _ rfl) J rfl rfl rfl), pm rfl, pm rfl, pt [(22, .slice A1 n1 c1), (23, .int .i64 x110)] rfl (fun U J => y_ia uu31 sz63 (X.rdl 0 ha1 rfl) h126 J rfl rfl rfl), pt [(24, .pointer (some (ea A1 (x110.toNat * 10))))] rfl (fun U J => y_fae (m := x110.toNat * 10) fa63_0 J rfl rfl), pt [(25, .pointer (some (ea A1 (x110.toNat * 10))))] rfl (fun U J => y_ld uu4 (hc127 0 _ rfl) J rfl rfl rfl), pt [(21, .bool x122.f0), (26, .bool x125.f0)] rfl (fun U J => r_neB uu4 rfl (J.ev rfl) (J.ev rfl)), pm rfl, puOff rfl rfl rfl rfl [(0, .slice A0 n0 c0), (28, .bool (!(x122.f0 == x125.f0)))] rfl hb128 rfl, puOff rfl rfl rfl rfl [(5, .int .i64 x110), (28, .bool (!(x122.f0 == x125.f0)))] rfl hb128 rfl, puOff rfl rfl rfl rfl [(28, .bool (!(x122.f0 == x125.f0))), (29, undef), (30, undef)] rfl hb128 rfl, puOff rfl rfl rfl rfl [(28, .bool (!(x122.f0 == x125.f0))), (31, undef)] rfl hb128 rfl, puOff rfl rfl rfl rfl [(28, .bool (!(x122.f0 == x125.f0))), (32, undef)] rfl hb128 rfl, puOff rfl rfl rfl rfl [(1, .slice A1 n1 c1), (28, .bool (!(x122.f0 == x125.f0)))] rfl hb128 rfl, puOff rfl rfl rfl rfl [(5, .int .i64 x110), (28, .bool (!(x122.f0 == x125.f0)))] rfl hb128 rfl, puOff rfl rfl rfl rfl [(28, .bool (!(x122.f0 == x125.f0))), (34, undef), (35, undef)] rfl hb128 rfl, puOff rfl rfl rfl rfl [(28, .bool (!(x122.f0 == x125.f0))), (36, undef)] rfl hb128 rfl, puOff rfl rfl rfl rfl [(28, .bool (!(x122.f0 == x125.f0))), (37, undef)] rfl hb128 rfl, puOff rfl rfl rfl rfl [(28, .bool (!(x122.f0 == x125.f0))), (33, undef), (38, undef)] rfl hb128 rfl, pt [(28, .bool (!(x122.f0 == x125.f0))), (39, undef)] rfl (fun U J => y_pickt hb128 J rfl rfl rfl), pm rfl, puOff rfl rfl rfl rfl [(0, .slice A0 n0 c0), (41, .bool true)] rfl rfl rfl, puOff rfl rfl rfl rfl [(5, .int .i64 x110), (41, .bool true)] rfl rfl rfl, puOff rfl rfl rfl rfl [(41, .bool true), (42, undef), (43, undef)] rfl rfl rfl, puOff rfl rfl rfl rfl [(41, .bool true), (44, undef)] rfl rfl rfl, puOff rfl rfl rfl rfl [(41, .bool true), (45, undef)] rfl rfl rfl, puOff rfl rfl rfl rfl [(41, .bool true), (46, undef)] rfl rfl rfl, puOff rfl rfl rfl rfl [(1, .slice A1 n1 c1), (41, .bool true)] rfl rfl rfl, puOff rfl rfl rfl rfl [(5, .int .i64 x110), (41, .bool true)] rfl rfl rfl, puOff rfl rfl rfl rfl [(41, .bool true), (48, undef), (49, undef)] rfl rfl rfl, puOff rfl rfl rfl rfl [(41, .bool true), (50, undef)] rfl rfl rfl, puOff rfl rfl rfl rfl [(41, .bool true), (51, undef)] rfl rfl rfl, puOff rfl rfl rfl rfl [(41, .bool true), (52, undef)] rfl rfl rfl, puOff rfl rfl rfl rfl [(41, .bool true), (47, undef), (53, undef)] rfl rfl rfl, pt [(41, .bool true), (54, undef)] rfl (fun U J => y_pickt rfl J rfl rfl rfl), pm rfl, puOff rfl rfl rfl rfl [(0, .slice A0 n0 c0), (56, .bool true)] rfl rfl rfl, puOff rfl rfl rfl rfl [(5, .int .i64 x110), (56, .bool true)] rfl rfl rfl, puOff rfl rfl rfl rfl [(56, .bool true), (57, undef), (58, undef)] rfl rfl rfl, puOff rfl rfl rfl rfl [(56, .bool true), (59, undef)] rfl rfl rfl, puOff rfl rfl rfl rfl [(56, .bool true), (60, undef)] rfl rfl rfl, puOff rfl rfl rfl rfl [(56, .bool true), (61, undef)] rfl rfl rfl, puOff rfl rfl rfl rfl [(1, .slice A1 n1 c1), (56, .bool true)] rfl rfl rfl, puOff rfl rfl rfl rfl [(5, .int .i64 x110), (56, .bool true)] rfl rfl rfl, puOff rfl rfl rfl rfl [(56, .bool true), (63, undef), (64, undef)] rfl rfl rfl, puOff rfl rfl rfl rfl [(56, .bool true), (65, undef)] rfl rfl rfl, puOff rfl rfl rfl rfl [(56, .bool true), (66, undef)] rfl rfl rfl, puOff rfl rfl rfl rfl [(56, .bool true), (67, undef)] rfl rfl rfl, puOff rfl rfl rfl rfl [(56, .bool true), (62, undef), (68, undef)] rfl rfl rfl, pt [(56, .bool true), (69, undef)] rfl (fun U J => y_pickt rfl J rfl rfl rfl), pm rfl, puOff rfl rfl rfl rfl [(0, .slice A0 n0 c0), (71, .bool true)] rfl rfl rfl, puOff rfl rfl rfl rfl [(5, .int .i64 x110), (71, .bool true)] rfl rfl rfl, puOff rfl rfl rfl rfl [(71, .bool true), (72, undef), (73, undef)] rfl rfl rfl, puOff rfl rfl rfl rfl [(71, .bool true), (74, undef)] rfl rfl rfl, puOff rfl rfl rfl rfl [(71, .bool true), (75, undef)] rfl rfl rfl, puOff rfl rfl rfl rfl [(71, .bool true), (76, undef)] rfl rfl rfl, puOff rfl rfl rfl rfl [(1, .slice A1 n1 c1), (71, .bool true)] rfl rfl rfl, puOff rfl rfl rfl rfl [(5, .int .i64 x110), (71, .bool true)] rfl rfl rfl, puOff rfl rfl rfl rfl [(71, .bool true), (78, undef), (79, undef)] rfl rfl rfl, puOff rfl rfl rfl rfl [(71, .bool true), (80, undef)] rfl rfl rfl, puOff rfl rfl rfl rfl [(71, .bool true), (81, undef)] rfl rfl rfl, puOff rfl rfl rfl rfl [(71, .bool true), (82, undef)] rfl rfl rfl, trivial⟩ ⟨?_, trivial⟩
   refine efOff rfl rfl rfl [(71, .bool true), (77, undef), (83, undef)] rfl [(68, undef), (69, .bool true)] rfl rfl ?_ rfl
   refine dEnd [68, 69] (by kernel_rfl) ⟨puOff rfl rfl rfl rfl [(71, .bool true), (84, undef)] rfl rfl rfl, pt [(71, .bool true), (85, undef)] rfl (fun U J => y_pickt rfl J rfl rfl rfl), trivial⟩ ⟨by kernel_rfl, by kernel_rfl⟩ [(0, .slice A0 n0 c0), (1, .slice A1 n1 c1), (5, .int .i64 x110), (86, .bool true)] rfl (fun U J => ?_)
   exact hj1 true G U w (J.sub _ rfl) X
  replace G := iff' hb128 G
  obtain ⟨cs, hV, hc129⟩ := el (X.rdl 0 ha0 rfl) h123
  obtain rfl := hV
  obtain ⟨cs, hV, hc130⟩ := el (X.rdl 0 ha1 rfl) h126
  obtain rfl := hV
  refine bcase (b := x122.f1 != x125.f1) (fun hb131 => ?_) fun hb131 => ?_
  ·replace G := ift hb131 G
   refine ⟨[(0, .slice A0 n0 c0), (1, .int .i64 x110), (2, .pointer (some (ea A0 (x110.toNat * 10)))), (3, .pointer (some (ea A0 (x110.toNat * 10)))), (4, .bool x122.f0), (5, .slice A1 n1 c1), (6, .int .i64 x110), (7, .pointer (some (ea A1 (x110.toNat * 10)))), (8, .pointer (some (ea A1 (x110.toNat * 10)))), (9, .bool x125.f0), (10, .bool (!(x122.f0 == x125.f0))), (11, .bool (!(x122.f0 == x125.f0))), (12, .slice A0 n0 c0), (13, .int .i64 x110), (14, .pointer (some (ea A0 (x110.toNat * 10)))), (15, .pointer (some (ea A0 (x110.toNat * 10 + 1)))), (16, .int .u64 x122.f1), (17, .slice A1 n1 c1), (18, .int .i64 x110), (19, .pointer (some (ea A1 (x110.toNat * 10)))), (20, .pointer (some (ea A1 (x110.toNat * 10 + 1)))), (21, .int .u64 x125.f1), (22, .bool (x122.f1 != x125.f1)), (23, .bool (x122.f1 != x125.f1)), (24, .bool (x122.f1 != x125.f1)), (25, undef), (26, undef), (27, undef), (28, undef), (29, undef), (30, undef), (31, undef), (32, undef), (33, undef), (34, undef), (35, undef), (36, undef), (37, undef), (38, .bool true), (39, .bool true), (40, undef), (41, undef), (42, undef), (43, undef), (44, undef), (45, undef), (46, undef), (47, undef), (48, undef), (49, undef), (50, undef), (51, undef), (52, undef), (53, .bool true), (54, .bool true), (55, undef), (56, undef), (57, undef), (58, undef), (59, undef), (60, undef), (61, undef), (62, undef), (63, undef), (64, undef), (65, undef), (66, undef)], ?_⟩
   refine dF [0, 1, 2, 3, 4, 5, 6, 7, 8, 9, 10, 11, 12, 13, 14, 15, 16, 17, 18, 19, 20, 21, 22, 23, 24, 25, 26, 27, 28, 29, 30, 31, 32, 33, 34, 35, 36, 37, 38, 39, 40, 41, 42, 43, 44, 45, 46, 47, 48, 49, 50, 51, 52, 53, 54, 55, 56, 57, 58, 59, 60, 61, 62, 63, 64, 65, 66] [67] (by kernel_rfl) ⟨pm rfl, pm rfl, pt [(17, .slice A0 n0 c0), (18, .int .i64 x110)] rfl (fun U J => y_ia uu31 sz63 (X.rdl 0 ha0 rfl) h123 J rfl rfl rfl), pt [(19, .pointer (some (ea A0 (x110.toNat * 10))))] rfl (fun U J => y_fae (m := x110.toNat * 10) fa63_0 J rfl rfl), pt [(20, .pointer (some (ea A0 (x110.toNat * 10))))] rfl (fun U J => y_ld uu4 (hc124 0 _ rfl) J rfl rfl rfl), pm rfl, pm rfl, pt [(22, .slice A1 n1 c1), (23, .int .i64 x110)] rfl (fun U J => y_ia uu31 sz63 (X.rdl 0 ha1 rfl) h126 J rfl rfl rfl), pt [(24, .pointer (some (ea A1 (x110.toNat * 10))))] rfl (fun U J => y_fae (m := x110.toNat * 10) fa63_0 J rfl rfl), pt [(25, .pointer (some (ea A1 (x110.toNat * 10))))] rfl (fun U J => y_ld uu4 (hc127 0 _ rfl) J rfl rfl rfl), pt [(21, .bool x122.f0), (26, .bool x125.f0)] rfl (fun U J => r_neB uu4 rfl (J.ev rfl) (J.ev rfl)), pm rfl, puOn rfl rfl rfl rfl [(0, .slice A0 n0 c0), (28, .bool (!(x122.f0 == x125.f0)))] rfl hb128 (fun U J => y_move J rfl rfl) rfl, puOn rfl rfl rfl rfl [(5, .int .i64 x110), (28, .bool (!(x122.f0 == x125.f0)))] rfl hb128 (fun U J => y_move J rfl rfl) rfl, puOn rfl rfl rfl rfl [(28, .bool (!(x122.f0 == x125.f0))), (29, .slice A0 n0 c0), (30, .int .i64 x110)] rfl hb128 (fun U J => y_ia uu31 sz63 (X.rdl 0 ha0 rfl) h123 J rfl rfl rfl) rfl, puOn rfl rfl rfl rfl [(28, .bool (!(x122.f0 == x125.f0))), (31, .pointer (some (ea A0 (x110.toNat * 10))))] rfl hb128 (fun U J => y_fae (m := x110.toNat * 10) fa63_1 J rfl rfl) rfl, puOn rfl rfl rfl rfl [(28, .bool (!(x122.f0 == x125.f0))), (32, .pointer (some (ea A0 (x110.toNat * 10 + 1))))] rfl hb128 (fun U J => y_ld uu30 (hc129 1 _ rfl) J rfl rfl rfl) rfl, puOn rfl rfl rfl rfl [(1, .slice A1 n1 c1), (28, .bool (!(x122.f0 == x125.f0)))] rfl hb128 (fun U J => y_move J rfl rfl) rfl, puOn rfl rfl rfl rfl [(5, .int .i64 x110), (28, .bool (!(x122.f0 == x125.f0)))] rfl hb128 (fun U J => y_move J rfl rfl) rfl, puOn rfl rfl rfl rfl [(28, .bool (!(x122.f0 == x125.f0))), (34, .slice A1 n1 c1), (35, .int .i64 x110)] rfl hb128 (fun U J => y_ia uu31 sz63 (X.rdl 0 ha1 rfl) h126 J rfl rfl rfl) rfl, puOn rfl rfl rfl rfl [(28, .bool (!(x122.f0 == x125.f0))), (36, .pointer (some (ea A1 (x110.toNat * 10))))] rfl hb128 (fun U J => y_fae (m := x110.toNat * 10) fa63_1 J rfl rfl) rfl, puOn rfl rfl rfl rfl [(28, .bool (!(x122.f0 == x125.f0))), (37, .pointer (some (ea A1 (x110.toNat * 10 + 1))))] rfl hb128 (fun U J => y_ld uu30 (hc130 1 _ rfl) J rfl rfl rfl) rfl, puOn rfl rfl rfl rfl [(28, .bool (!(x122.f0 == x125.f0))), (33, .int .u64 x122.f1), (38, .int .u64 x125.f1)] rfl hb128 (fun U J => r_neI rfl (J.ev rfl) (J.ev rfl)) rfl, pt [(28, .bool (!(x122.f0 == x125.f0))), (39, .bool (x122.f1 != x125.f1))] rfl (fun U J => y_pickf hb128 J rfl rfl rfl), pm rfl, puOff rfl rfl rfl rfl [(0, .slice A0 n0 c0), (41, .bool (x122.f1 != x125.f1))] rfl hb131 rfl, puOff rfl rfl rfl rfl [(5, .int .i64 x110), (41, .bool (x122.f1 != x125.f1))] rfl hb131 rfl, puOff rfl rfl rfl rfl [(41, .bool (x122.f1 != x125.f1)), (42, undef), (43, undef)] rfl hb131 rfl, puOff rfl rfl rfl rfl [(41, .bool (x122.f1 != x125.f1)), (44, undef)] rfl hb131 rfl, puOff rfl rfl rfl rfl [(41, .bool (x122.f1 != x125.f1)), (45, undef)] rfl hb131 rfl, puOff rfl rfl rfl rfl [(41, .bool (x122.f1 != x125.f1)), (46, undef)] rfl hb131 rfl, puOff rfl rfl rfl rfl [(1, .slice A1 n1 c1), (41, .bool (x122.f1 != x125.f1))] rfl hb131 rfl, puOff rfl rfl rfl rfl [(5, .int .i64 x110), (41, .bool (x122.f1 != x125.f1))] rfl hb131 rfl, puOff rfl rfl rfl rfl [(41, .bool (x122.f1 != x125.f1)), (48, undef), (49, undef)] rfl hb131 rfl, puOff rfl rfl rfl rfl [(41, .bool (x122.f1 != x125.f1)), (50, undef)] rfl hb131 rfl, puOff rfl rfl rfl rfl [(41, .bool (x122.f1 != x125.f1)), (51, undef)] rfl hb131 rfl, puOff rfl rfl rfl rfl [(41, .bool (x122.f1 != x125.f1)), (52, undef)] rfl hb131 rfl, puOff rfl rfl rfl rfl [(41, .bool (x122.f1 != x125.f1)), (47, undef), (53, undef)] rfl hb131 rfl, pt [(41, .bool (x122.f1 != x125.f1)), (54, undef)] rfl (fun U J => y_pickt hb131 J rfl rfl rfl), pm rfl, puOff rfl rfl rfl rfl [(0, .slice A0 n0 c0), (56, .bool true)] rfl rfl rfl, puOff rfl rfl rfl rfl [(5, .int .i64 x110), (56, .bool true)] rfl rfl rfl, puOff rfl rfl rfl rfl [(56, .bool true), (57, undef), (58, undef)] rfl rfl rfl, puOff rfl rfl rfl rfl [(56, .bool true), (59, undef)] rfl rfl rfl, puOff rfl rfl rfl rfl [(56, .bool true), (60, undef)] rfl rfl rfl, puOff rfl rfl rfl rfl [(56, .bool true), (61, undef)] rfl rfl rfl, puOff rfl rfl rfl rfl [(1, .slice A1 n1 c1), (56, .bool true)] rfl rfl rfl, puOff rfl rfl rfl rfl [(5, .int .i64 x110), (56, .bool true)] rfl rfl rfl, puOff rfl rfl rfl rfl [(56, .bool true), (63, undef), (64, undef)] rfl rfl rfl, puOff rfl rfl rfl rfl [(56, .bool true), (65, undef)] rfl rfl rfl, puOff rfl rfl rfl rfl [(56, .bool true), (66, undef)] rfl rfl rfl, puOff rfl rfl rfl rfl [(56, .bool true), (67, undef)] rfl rfl rfl, puOff rfl rfl rfl rfl [(56, .bool true), (62, undef), (68, undef)] rfl rfl rfl, pt [(56, .bool true), (69, undef)] rfl (fun U J => y_pickt rfl J rfl rfl rfl), pm rfl, puOff rfl rfl rfl rfl [(0, .slice A0 n0 c0), (71, .bool true)] rfl rfl rfl, puOff rfl rfl rfl rfl [(5, .int .i64 x110), (71, .bool true)] rfl rfl rfl, puOff rfl rfl rfl rfl [(71, .bool true), (72, undef), (73, undef)] rfl rfl rfl, puOff rfl rfl rfl rfl [(71, .bool true), (74, undef)] rfl rfl rfl, puOff rfl rfl rfl rfl [(71, .bool true), (75, undef)] rfl rfl rfl, puOff rfl rfl rfl rfl [(71, .bool true), (76, undef)] rfl rfl rfl, puOff rfl rfl rfl rfl [(1, .slice A1 n1 c1), (71, .bool true)] rfl rfl rfl, puOff rfl rfl rfl rfl [(5, .int .i64 x110), (71, .bool true)] rfl rfl rfl, puOff rfl rfl rfl rfl [(71, .bool true), (78, undef), (79, undef)] rfl rfl rfl, puOff rfl rfl rfl rfl [(71, .bool true), (80, undef)] rfl rfl rfl, puOff rfl rfl rfl rfl [(71, .bool true), (81, undef)] rfl rfl rfl, puOff rfl rfl rfl rfl [(71, .bool true), (82, undef)] rfl rfl rfl, trivial⟩ ⟨?_, trivial⟩
   refine efOff rfl rfl rfl [(71, .bool true), (77, undef), (83, undef)] rfl [(68, undef), (69, .bool true)] rfl rfl ?_ rfl
   refine dEnd [68, 69] (by kernel_rfl) ⟨puOff rfl rfl rfl rfl [(71, .bool true), (84, undef)] rfl rfl rfl, pt [(71, .bool true), (85, undef)] rfl (fun U J => y_pickt rfl J rfl rfl rfl), trivial⟩ ⟨by kernel_rfl, by kernel_rfl⟩ [(0, .slice A0 n0 c0), (1, .slice A1 n1 c1), (5, .int .i64 x110), (29, .slice A0 n0 c0), (30, .int .i64 x110), (33, .int .u64 x122.f1), (34, .slice A1 n1 c1), (35, .int .i64 x110), (38, .int .u64 x125.f1), (39, .bool (x122.f1 != x125.f1)), (86, .bool true)] rfl (fun U J => ?_)
   exact hj1 true G U w (J.sub _ rfl) X
  replace G := iff' hb131 G
  obtain ⟨cs, hV, hc132⟩ := el (X.rdl 0 ha0 rfl) h123
  obtain rfl := hV
  obtain ⟨cs, hV, hc133⟩ := el (X.rdl 0 ha1 rfl) h126
  obtain rfl := hV
  refine bcase (b := !(x122.f2.f0 == x125.f2.f0)) (fun hb134 => ?_) fun hb134 => ?_
  ·replace G := ift hb134 G
   refine ⟨[(0, .slice A0 n0 c0), (1, .int .i64 x110), (2, .pointer (some (ea A0 (x110.toNat * 10)))), (3, .pointer (some (ea A0 (x110.toNat * 10)))), (4, .bool x122.f0), (5, .slice A1 n1 c1), (6, .int .i64 x110), (7, .pointer (some (ea A1 (x110.toNat * 10)))), (8, .pointer (some (ea A1 (x110.toNat * 10)))), (9, .bool x125.f0), (10, .bool (!(x122.f0 == x125.f0))), (11, .bool (!(x122.f0 == x125.f0))), (12, .slice A0 n0 c0), (13, .int .i64 x110), (14, .pointer (some (ea A0 (x110.toNat * 10)))), (15, .pointer (some (ea A0 (x110.toNat * 10 + 1)))), (16, .int .u64 x122.f1), (17, .slice A1 n1 c1), (18, .int .i64 x110), (19, .pointer (some (ea A1 (x110.toNat * 10)))), (20, .pointer (some (ea A1 (x110.toNat * 10 + 1)))), (21, .int .u64 x125.f1), (22, .bool (x122.f1 != x125.f1)), (23, .bool (x122.f1 != x125.f1)), (24, .bool (x122.f1 != x125.f1)), (25, .slice A0 n0 c0), (26, .int .i64 x110), (27, .pointer (some (ea A0 (x110.toNat * 10)))), (28, .pointer (some (ea A0 (x110.toNat * 10 + 2)))), (29, .pointer (some (ea A0 (x110.toNat * 10 + 2)))), (30, str x122.f2.f0), (31, .slice A1 n1 c1), (32, .int .i64 x110), (33, .pointer (some (ea A1 (x110.toNat * 10)))), (34, .pointer (some (ea A1 (x110.toNat * 10 + 2)))), (35, .pointer (some (ea A1 (x110.toNat * 10 + 2)))), (36, str x125.f2.f0), (37, .bool (!(x122.f2.f0 == x125.f2.f0))), (38, .bool (!(x122.f2.f0 == x125.f2.f0))), (39, .bool (!(x122.f2.f0 == x125.f2.f0))), (40, undef), (41, undef), (42, undef), (43, undef), (44, undef), (45, undef), (46, undef), (47, undef), (48, undef), (49, undef), (50, undef), (51, undef), (52, undef), (53, .bool true), (54, .bool true), (55, undef), (56, undef), (57, undef), (58, undef), (59, undef), (60, undef), (61, undef), (62, undef), (63, undef), (64, undef), (65, undef), (66, undef)], ?_⟩
   refine dF [0, 1, 2, 3, 4, 5, 6, 7, 8, 9, 10, 11, 12, 13, 14, 15, 16, 17, 18, 19, 20, 21, 22, 23, 24, 25, 26, 27, 28, 29, 30, 31, 32, 33, 34, 35, 36, 37, 38, 39, 40, 41, 42, 43, 44, 45, 46, 47, 48, 49, 50, 51, 52, 53, 54, 55, 56, 57, 58, 59, 60, 61, 62, 63, 64, 65, 66] [67] (by kernel_rfl) ⟨pm rfl, pm rfl, pt [(17, .slice A0 n0 c0), (18, .int .i64 x110)] rfl (fun U J => y_ia uu31 sz63 (X.rdl 0 ha0 rfl) h123 J rfl rfl rfl), pt [(19, .pointer (some (ea A0 (x110.toNat * 10))))] rfl (fun U J => y_fae (m := x110.toNat * 10) fa63_0 J rfl rfl), pt [(20, .pointer (some (ea A0 (x110.toNat * 10))))] rfl (fun U J => y_ld uu4 (hc124 0 _ rfl) J rfl rfl rfl), pm rfl, pm rfl, pt [(22, .slice A1 n1 c1), (23, .int .i64 x110)] rfl (fun U J => y_ia uu31 sz63 (X.rdl 0 ha1 rfl) h126 J rfl rfl rfl), pt [(24, .pointer (some (ea A1 (x110.toNat * 10))))] rfl (fun U J => y_fae (m := x110.toNat * 10) fa63_0 J rfl rfl), pt [(25, .pointer (some (ea A1 (x110.toNat * 10))))] rfl (fun U J => y_ld uu4 (hc127 0 _ rfl) J rfl rfl rfl), pt [(21, .bool x122.f0), (26, .bool x125.f0)] rfl (fun U J => r_neB uu4 rfl (J.ev rfl) (J.ev rfl)), pm rfl, puOn rfl rfl rfl rfl [(0, .slice A0 n0 c0), (28, .bool (!(x122.f0 == x125.f0)))] rfl hb128 (fun U J => y_move J rfl rfl) rfl, puOn rfl rfl rfl rfl [(5, .int .i64 x110), (28, .bool (!(x122.f0 == x125.f0)))] rfl hb128 (fun U J => y_move J rfl rfl) rfl, puOn rfl rfl rfl rfl [(28, .bool (!(x122.f0 == x125.f0))), (29, .slice A0 n0 c0), (30, .int .i64 x110)] rfl hb128 (fun U J => y_ia uu31 sz63 (X.rdl 0 ha0 rfl) h123 J rfl rfl rfl) rfl, puOn rfl rfl rfl rfl [(28, .bool (!(x122.f0 == x125.f0))), (31, .pointer (some (ea A0 (x110.toNat * 10))))] rfl hb128 (fun U J => y_fae (m := x110.toNat * 10) fa63_1 J rfl rfl) rfl, puOn rfl rfl rfl rfl [(28, .bool (!(x122.f0 == x125.f0))), (32, .pointer (some (ea A0 (x110.toNat * 10 + 1))))] rfl hb128 (fun U J => y_ld uu30 (hc129 1 _ rfl) J rfl rfl rfl) rfl, puOn rfl rfl rfl rfl [(1, .slice A1 n1 c1), (28, .bool (!(x122.f0 == x125.f0)))] rfl hb128 (fun U J => y_move J rfl rfl) rfl, puOn rfl rfl rfl rfl [(5, .int .i64 x110), (28, .bool (!(x122.f0 == x125.f0)))] rfl hb128 (fun U J => y_move J rfl rfl) rfl, puOn rfl rfl rfl rfl [(28, .bool (!(x122.f0 == x125.f0))), (34, .slice A1 n1 c1), (35, .int .i64 x110)] rfl hb128 (fun U J => y_ia uu31 sz63 (X.rdl 0 ha1 rfl) h126 J rfl rfl rfl) rfl, puOn rfl rfl rfl rfl [(28, .bool (!(x122.f0 == x125.f0))), (36, .pointer (some (ea A1 (x110.toNat * 10))))] rfl hb128 (fun U J => y_fae (m := x110.toNat * 10) fa63_1 J rfl rfl) rfl, puOn rfl rfl rfl rfl [(28, .bool (!(x122.f0 == x125.f0))), (37, .pointer (some (ea A1 (x110.toNat * 10 + 1))))] rfl hb128 (fun U J => y_ld uu30 (hc130 1 _ rfl) J rfl rfl rfl) rfl, puOn rfl rfl rfl rfl [(28, .bool (!(x122.f0 == x125.f0))), (33, .int .u64 x122.f1), (38, .int .u64 x125.f1)] rfl hb128 (fun U J => r_neI rfl (J.ev rfl) (J.ev rfl)) rfl, pt [(28, .bool (!(x122.f0 == x125.f0))), (39, .bool (x122.f1 != x125.f1))] rfl (fun U J => y_pickf hb128 J rfl rfl rfl), pm rfl, puOn rfl rfl rfl rfl [(0, .slice A0 n0 c0), (41, .bool (x122.f1 != x125.f1))] rfl hb131 (fun U J => y_move J rfl rfl) rfl, puOn rfl rfl rfl rfl [(5, .int .i64 x110), (41, .bool (x122.f1 != x125.f1))] rfl hb131 (fun U J => y_move J rfl rfl) rfl, puOn rfl rfl rfl rfl [(41, .bool (x122.f1 != x125.f1)), (42, .slice A0 n0 c0), (43, .int .i64 x110)] rfl hb131 (fun U J => y_ia uu31 sz63 (X.rdl 0 ha0 rfl) h123 J rfl rfl rfl) rfl, puOn rfl rfl rfl rfl [(41, .bool (x122.f1 != x125.f1)), (44, .pointer (some (ea A0 (x110.toNat * 10))))] rfl hb131 (fun U J => y_fae (m := x110.toNat * 10) fa63_2 J rfl rfl) rfl, puOn rfl rfl rfl rfl [(41, .bool (x122.f1 != x125.f1)), (45, .pointer (some (ea A0 (x110.toNat * 10 + 2))))] rfl hb131 (fun U J => y_fae (m := x110.toNat * 10 + 2) fa61_0 J rfl rfl) rfl, puOn rfl rfl rfl rfl [(41, .bool (x122.f1 != x125.f1)), (46, .pointer (some (ea A0 (x110.toNat * 10 + 2))))] rfl hb131 (fun U J => y_ld uu9 (hc132 2 _ rfl) J rfl rfl rfl) rfl, puOn rfl rfl rfl rfl [(1, .slice A1 n1 c1), (41, .bool (x122.f1 != x125.f1))] rfl hb131 (fun U J => y_move J rfl rfl) rfl, puOn rfl rfl rfl rfl [(5, .int .i64 x110), (41, .bool (x122.f1 != x125.f1))] rfl hb131 (fun U J => y_move J rfl rfl) rfl, puOn rfl rfl rfl rfl [(41, .bool (x122.f1 != x125.f1)), (48, .slice A1 n1 c1), (49, .int .i64 x110)] rfl hb131 (fun U J => y_ia uu31 sz63 (X.rdl 0 ha1 rfl) h126 J rfl rfl rfl) rfl, puOn rfl rfl rfl rfl [(41, .bool (x122.f1 != x125.f1)), (50, .pointer (some (ea A1 (x110.toNat * 10))))] rfl hb131 (fun U J => y_fae (m := x110.toNat * 10) fa63_2 J rfl rfl) rfl, puOn rfl rfl rfl rfl [(41, .bool (x122.f1 != x125.f1)), (51, .pointer (some (ea A1 (x110.toNat * 10 + 2))))] rfl hb131 (fun U J => y_fae (m := x110.toNat * 10 + 2) fa61_0 J rfl rfl) rfl, puOn rfl rfl rfl rfl [(41, .bool (x122.f1 != x125.f1)), (52, .pointer (some (ea A1 (x110.toNat * 10 + 2))))] rfl hb131 (fun U J => y_ld uu9 (hc133 2 _ rfl) J rfl rfl rfl) rfl, puOn rfl rfl rfl rfl [(41, .bool (x122.f1 != x125.f1)), (47, str x122.f2.f0), (53, str x125.f2.f0)] rfl hb131 (fun U J => r_neS rfl (J.ev rfl) (J.ev rfl)) rfl, pt [(41, .bool (x122.f1 != x125.f1)), (54, .bool (!(x122.f2.f0 == x125.f2.f0)))] rfl (fun U J => y_pickf hb131 J rfl rfl rfl), pm rfl, puOff rfl rfl rfl rfl [(0, .slice A0 n0 c0), (56, .bool (!(x122.f2.f0 == x125.f2.f0)))] rfl hb134 rfl, puOff rfl rfl rfl rfl [(5, .int .i64 x110), (56, .bool (!(x122.f2.f0 == x125.f2.f0)))] rfl hb134 rfl, puOff rfl rfl rfl rfl [(56, .bool (!(x122.f2.f0 == x125.f2.f0))), (57, undef), (58, undef)] rfl hb134 rfl, puOff rfl rfl rfl rfl [(56, .bool (!(x122.f2.f0 == x125.f2.f0))), (59, undef)] rfl hb134 rfl, puOff rfl rfl rfl rfl [(56, .bool (!(x122.f2.f0 == x125.f2.f0))), (60, undef)] rfl hb134 rfl, puOff rfl rfl rfl rfl [(56, .bool (!(x122.f2.f0 == x125.f2.f0))), (61, undef)] rfl hb134 rfl, puOff rfl rfl rfl rfl [(1, .slice A1 n1 c1), (56, .bool (!(x122.f2.f0 == x125.f2.f0)))] rfl hb134 rfl, puOff rfl rfl rfl rfl [(5, .int .i64 x110), (56, .bool (!(x122.f2.f0 == x125.f2.f0)))] rfl hb134 rfl, puOff rfl rfl rfl rfl [(56, .bool (!(x122.f2.f0 == x125.f2.f0))), (63, undef), (64, undef)] rfl hb134 rfl, puOff rfl rfl rfl rfl [(56, .bool (!(x122.f2.f0 == x125.f2.f0))), (65, undef)] rfl hb134 rfl, puOff rfl rfl rfl rfl [(56, .bool (!(x122.f2.f0 == x125.f2.f0))), (66, undef)] rfl hb134 rfl, puOff rfl rfl rfl rfl [(56, .bool (!(x122.f2.f0 == x125.f2.f0))), (67, undef)] rfl hb134 rfl, puOff rfl rfl rfl rfl [(56, .bool (!(x122.f2.f0 == x125.f2.f0))), (62, undef), (68, undef)] rfl hb134 rfl, pt [(56, .bool (!(x122.f2.f0 == x125.f2.f0))), (69, undef)] rfl (fun U J => y_pickt hb134 J rfl rfl rfl), pm rfl, puOff rfl rfl rfl rfl [(0, .slice A0 n0 c0), (71, .bool true)] rfl rfl rfl, puOff rfl rfl rfl rfl [(5, .int .i64 x110), (71, .bool true)] rfl rfl rfl, puOff rfl rfl rfl rfl [(71, .bool true), (72, undef), (73, undef)] rfl rfl rfl, puOff rfl rfl rfl rfl [(71, .bool true), (74, undef)] rfl rfl rfl, puOff rfl rfl rfl rfl [(71, .bool true), (75, undef)] rfl rfl rfl, puOff rfl rfl rfl rfl [(71, .bool true), (76, undef)] rfl rfl rfl, puOff rfl rfl rfl rfl [(1, .slice A1 n1 c1), (71, .bool true)] rfl rfl rfl, puOff rfl rfl rfl rfl [(5, .int .i64 x110), (71, .bool true)] rfl rfl rfl, puOff rfl rfl rfl rfl [(71, .bool true), (78, undef), (79, undef)] rfl rfl rfl, puOff rfl rfl rfl rfl [(71, .bool true), (80, undef)] rfl rfl rfl, puOff rfl rfl rfl rfl [(71, .bool true), (81, undef)] rfl rfl rfl, puOff rfl rfl rfl rfl [(71, .bool true), (82, undef)] rfl rfl rfl, trivial⟩ ⟨?_, trivial⟩
   refine efOff rfl rfl rfl [(71, .bool true), (77, undef), (83, undef)] rfl [(68, undef), (69, .bool true)] rfl rfl ?_ rfl
   refine dEnd [68, 69] (by kernel_rfl) ⟨puOff rfl rfl rfl rfl [(71, .bool true), (84, undef)] rfl rfl rfl, pt [(71, .bool true), (85, undef)] rfl (fun U J => y_pickt rfl J rfl rfl rfl), trivial⟩ ⟨by kernel_rfl, by kernel_rfl⟩ [(0, .slice A0 n0 c0), (1, .slice A1 n1 c1), (5, .int .i64 x110), (29, .slice A0 n0 c0), (30, .int .i64 x110), (33, .int .u64 x122.f1), (34, .slice A1 n1 c1), (35, .int .i64 x110), (38, .int .u64 x125.f1), (39, .bool (x122.f1 != x125.f1)), (42, .slice A0 n0 c0), (43, .int .i64 x110), (47, str x122.f2.f0), (48, .slice A1 n1 c1), (49, .int .i64 x110), (53, str x125.f2.f0), (54, .bool (!(x122.f2.f0 == x125.f2.f0))), (86, .bool true)] rfl (fun U J => ?_)
   exact hj1 true G U w (J.sub _ rfl) X
  replace G := iff' hb134 G
  obtain ⟨cs, hV, hc135⟩ := el (X.rdl 0 ha0 rfl) h123
  obtain rfl := hV
  obtain ⟨cs, hV, hc136⟩ := el (X.rdl 0 ha1 rfl) h126
  obtain rfl := hV
  refine bcase (b := !eq56 x122.f2.f1 x125.f2.f1) (fun hb137 => ?_) fun hb137 => ?_
  ·replace G := ift hb137 G
   refine ⟨[(0, .slice A0 n0 c0), (1, .int .i64 x110), (2, .pointer (some (ea A0 (x110.toNat * 10)))), (3, .pointer (some (ea A0 (x110.toNat * 10)))), (4, .bool x122.f0), (5, .slice A1 n1 c1), (6, .int .i64 x110), (7, .pointer (some (ea A1 (x110.toNat * 10)))), (8, .pointer (some (ea A1 (x110.toNat * 10)))), (9, .bool x125.f0), (10, .bool (!(x122.f0 == x125.f0))), (11, .bool (!(x122.f0 == x125.f0))), (12, .slice A0 n0 c0), (13, .int .i64 x110), (14, .pointer (some (ea A0 (x110.toNat * 10)))), (15, .pointer (some (ea A0 (x110.toNat * 10 + 1)))), (16, .int .u64 x122.f1), (17, .slice A1 n1 c1), (18, .int .i64 x110), (19, .pointer (some (ea A1 (x110.toNat * 10)))), (20, .pointer (some (ea A1 (x110.toNat * 10 + 1)))), (21, .int .u64 x125.f1), (22, .bool (x122.f1 != x125.f1)), (23, .bool (x122.f1 != x125.f1)), (24, .bool (x122.f1 != x125.f1)), (25, .slice A0 n0 c0), (26, .int .i64 x110), (27, .pointer (some (ea A0 (x110.toNat * 10)))), (28, .pointer (some (ea A0 (x110.toNat * 10 + 2)))), (29, .pointer (some (ea A0 (x110.toNat * 10 + 2)))), (30, str x122.f2.f0), (31, .slice A1 n1 c1), (32, .int .i64 x110), (33, .pointer (some (ea A1 (x110.toNat * 10)))), (34, .pointer (some (ea A1 (x110.toNat * 10 + 2)))), (35, .pointer (some (ea A1 (x110.toNat * 10 + 2)))), (36, str x125.f2.f0), (37, .bool (!(x122.f2.f0 == x125.f2.f0))), (38, .bool (!(x122.f2.f0 == x125.f2.f0))), (39, .bool (!(x122.f2.f0 == x125.f2.f0))), (40, .slice A0 n0 c0), (41, .int .i64 x110), (42, .pointer (some (ea A0 (x110.toNat * 10)))), (43, .pointer (some (ea A0 (x110.toNat * 10 + 2)))), (44, .pointer (some (ea A0 (x110.toNat * 10 + 3)))), (45, .agg #[.int .i64 x122.f2.f1.f0, .int .i64 x122.f2.f1.f1]), (46, .slice A1 n1 c1), (47, .int .i64 x110), (48, .pointer (some (ea A1 (x110.toNat * 10)))), (49, .pointer (some (ea A1 (x110.toNat * 10 + 2)))), (50, .pointer (some (ea A1 (x110.toNat * 10 + 3)))), (51, .agg #[.int .i64 x125.f2.f1.f0, .int .i64 x125.f2.f1.f1]), (52, .bool (!eq56 x122.f2.f1 x125.f2.f1)), (53, .bool (!eq56 x122.f2.f1 x125.f2.f1)), (54, .bool (!eq56 x122.f2.f1 x125.f2.f1)), (55, undef), (56, undef), (57, undef), (58, undef), (59, undef), (60, undef), (61, undef), (62, undef), (63, undef), (64, undef), (65, undef), (66, undef)], ?_⟩
   refine dF [0, 1, 2, 3, 4, 5, 6, 7, 8, 9, 10, 11, 12, 13, 14, 15, 16, 17, 18, 19, 20, 21, 22, 23, 24, 25, 26, 27, 28, 29, 30, 31, 32, 33, 34, 35, 36, 37, 38, 39, 40, 41, 42, 43, 44, 45, 46, 47, 48, 49, 50, 51, 52, 53, 54, 55, 56, 57, 58, 59, 60, 61, 62, 63, 64, 65, 66] [67] (by kernel_rfl) ⟨pm rfl, pm rfl, pt [(17, .slice A0 n0 c0), (18, .int .i64 x110)] rfl (fun U J => y_ia uu31 sz63 (X.rdl 0 ha0 rfl) h123 J rfl rfl rfl), pt [(19, .pointer (some (ea A0 (x110.toNat * 10))))] rfl (fun U J => y_fae (m := x110.toNat * 10) fa63_0 J rfl rfl), pt [(20, .pointer (some (ea A0 (x110.toNat * 10))))] rfl (fun U J => y_ld uu4 (hc124 0 _ rfl) J rfl rfl rfl), pm rfl, pm rfl, pt [(22, .slice A1 n1 c1), (23, .int .i64 x110)] rfl (fun U J => y_ia uu31 sz63 (X.rdl 0 ha1 rfl) h126 J rfl rfl rfl), pt [(24, .pointer (some (ea A1 (x110.toNat * 10))))] rfl (fun U J => y_fae (m := x110.toNat * 10) fa63_0 J rfl rfl), pt [(25, .pointer (some (ea A1 (x110.toNat * 10))))] rfl (fun U J => y_ld uu4 (hc127 0 _ rfl) J rfl rfl rfl), pt [(21, .bool x122.f0), (26, .bool x125.f0)] rfl (fun U J => r_neB uu4 rfl (J.ev rfl) (J.ev rfl)), pm rfl, puOn rfl rfl rfl rfl [(0, .slice A0 n0 c0), (28, .bool (!(x122.f0 == x125.f0)))] rfl hb128 (fun U J => y_move J rfl rfl) rfl, puOn rfl rfl rfl rfl [(5, .int .i64 x110), (28, .bool (!(x122.f0 == x125.f0)))] rfl hb128 (fun U J => y_move J rfl rfl) rfl, puOn rfl rfl rfl rfl [(28, .bool (!(x122.f0 == x125.f0))), (29, .slice A0 n0 c0), (30, .int .i64 x110)] rfl hb128 (fun U J => y_ia uu31 sz63 (X.rdl 0 ha0 rfl) h123 J rfl rfl rfl) rfl, puOn rfl rfl rfl rfl [(28, .bool (!(x122.f0 == x125.f0))), (31, .pointer (some (ea A0 (x110.toNat * 10))))] rfl hb128 (fun U J => y_fae (m := x110.toNat * 10) fa63_1 J rfl rfl) rfl, puOn rfl rfl rfl rfl [(28, .bool (!(x122.f0 == x125.f0))), (32, .pointer (some (ea A0 (x110.toNat * 10 + 1))))] rfl hb128 (fun U J => y_ld uu30 (hc129 1 _ rfl) J rfl rfl rfl) rfl, puOn rfl rfl rfl rfl [(1, .slice A1 n1 c1), (28, .bool (!(x122.f0 == x125.f0)))] rfl hb128 (fun U J => y_move J rfl rfl) rfl, puOn rfl rfl rfl rfl [(5, .int .i64 x110), (28, .bool (!(x122.f0 == x125.f0)))] rfl hb128 (fun U J => y_move J rfl rfl) rfl, puOn rfl rfl rfl rfl [(28, .bool (!(x122.f0 == x125.f0))), (34, .slice A1 n1 c1), (35, .int .i64 x110)] rfl hb128 (fun U J => y_ia uu31 sz63 (X.rdl 0 ha1 rfl) h126 J rfl rfl rfl) rfl, puOn rfl rfl rfl rfl [(28, .bool (!(x122.f0 == x125.f0))), (36, .pointer (some (ea A1 (x110.toNat * 10))))] rfl hb128 (fun U J => y_fae (m := x110.toNat * 10) fa63_1 J rfl rfl) rfl, puOn rfl rfl rfl rfl [(28, .bool (!(x122.f0 == x125.f0))), (37, .pointer (some (ea A1 (x110.toNat * 10 + 1))))] rfl hb128 (fun U J => y_ld uu30 (hc130 1 _ rfl) J rfl rfl rfl) rfl, puOn rfl rfl rfl rfl [(28, .bool (!(x122.f0 == x125.f0))), (33, .int .u64 x122.f1), (38, .int .u64 x125.f1)] rfl hb128 (fun U J => r_neI rfl (J.ev rfl) (J.ev rfl)) rfl, pt [(28, .bool (!(x122.f0 == x125.f0))), (39, .bool (x122.f1 != x125.f1))] rfl (fun U J => y_pickf hb128 J rfl rfl rfl), pm rfl, puOn rfl rfl rfl rfl [(0, .slice A0 n0 c0), (41, .bool (x122.f1 != x125.f1))] rfl hb131 (fun U J => y_move J rfl rfl) rfl, puOn rfl rfl rfl rfl [(5, .int .i64 x110), (41, .bool (x122.f1 != x125.f1))] rfl hb131 (fun U J => y_move J rfl rfl) rfl, puOn rfl rfl rfl rfl [(41, .bool (x122.f1 != x125.f1)), (42, .slice A0 n0 c0), (43, .int .i64 x110)] rfl hb131 (fun U J => y_ia uu31 sz63 (X.rdl 0 ha0 rfl) h123 J rfl rfl rfl) rfl, puOn rfl rfl rfl rfl [(41, .bool (x122.f1 != x125.f1)), (44, .pointer (some (ea A0 (x110.toNat * 10))))] rfl hb131 (fun U J => y_fae (m := x110.toNat * 10) fa63_2 J rfl rfl) rfl, puOn rfl rfl rfl rfl [(41, .bool (x122.f1 != x125.f1)), (45, .pointer (some (ea A0 (x110.toNat * 10 + 2))))] rfl hb131 (fun U J => y_fae (m := x110.toNat * 10 + 2) fa61_0 J rfl rfl) rfl, puOn rfl rfl rfl rfl [(41, .bool (x122.f1 != x125.f1)), (46, .pointer (some (ea A0 (x110.toNat * 10 + 2))))] rfl hb131 (fun U J => y_ld uu9 (hc132 2 _ rfl) J rfl rfl rfl) rfl, puOn rfl rfl rfl rfl [(1, .slice A1 n1 c1), (41, .bool (x122.f1 != x125.f1))] rfl hb131 (fun U J => y_move J rfl rfl) rfl, puOn rfl rfl rfl rfl [(5, .int .i64 x110), (41, .bool (x122.f1 != x125.f1))] rfl hb131 (fun U J => y_move J rfl rfl) rfl, puOn rfl rfl rfl rfl [(41, .bool (x122.f1 != x125.f1)), (48, .slice A1 n1 c1), (49, .int .i64 x110)] rfl hb131 (fun U J => y_ia uu31 sz63 (X.rdl 0 ha1 rfl) h126 J rfl rfl rfl) rfl, puOn rfl rfl rfl rfl [(41, .bool (x122.f1 != x125.f1)), (50, .pointer (some (ea A1 (x110.toNat * 10))))] rfl hb131 (fun U J => y_fae (m := x110.toNat * 10) fa63_2 J rfl rfl) rfl, puOn rfl rfl rfl rfl [(41, .bool (x122.f1 != x125.f1)), (51, .pointer (some (ea A1 (x110.toNat * 10 + 2))))] rfl hb131 (fun U J => y_fae (m := x110.toNat * 10 + 2) fa61_0 J rfl rfl) rfl, puOn rfl rfl rfl rfl [(41, .bool (x122.f1 != x125.f1)), (52, .pointer (some (ea A1 (x110.toNat * 10 + 2))))] rfl hb131 (fun U J => y_ld uu9 (hc133 2 _ rfl) J rfl rfl rfl) rfl, puOn rfl rfl rfl rfl [(41, .bool (x122.f1 != x125.f1)), (47, str x122.f2.f0), (53, str x125.f2.f0)] rfl hb131 (fun U J => r_neS rfl (J.ev rfl) (J.ev rfl)) rfl, pt [(41, .bool (x122.f1 != x125.f1)), (54, .bool (!(x122.f2.f0 == x125.f2.f0)))] rfl (fun U J => y_pickf hb131 J rfl rfl rfl), pm rfl, puOn rfl rfl rfl rfl [(0, .slice A0 n0 c0), (56, .bool (!(x122.f2.f0 == x125.f2.f0)))] rfl hb134 (fun U J => y_move J rfl rfl) rfl, puOn rfl rfl rfl rfl [(5, .int .i64 x110), (56, .bool (!(x122.f2.f0 == x125.f2.f0)))] rfl hb134 (fun U J => y_move J rfl rfl) rfl, puOn rfl rfl rfl rfl [(56, .bool (!(x122.f2.f0 == x125.f2.f0))), (57, .slice A0 n0 c0), (58, .int .i64 x110)] rfl hb134 (fun U J => y_ia uu31 sz63 (X.rdl 0 ha0 rfl) h123 J rfl rfl rfl) rfl, puOn rfl rfl rfl rfl [(56, .bool (!(x122.f2.f0 == x125.f2.f0))), (59, .pointer (some (ea A0 (x110.toNat * 10))))] rfl hb134 (fun U J => y_fae (m := x110.toNat * 10) fa63_2 J rfl rfl) rfl, puOn rfl rfl rfl rfl [(56, .bool (!(x122.f2.f0 == x125.f2.f0))), (60, .pointer (some (ea A0 (x110.toNat * 10 + 2))))] rfl hb134 (fun U J => y_fae (m := x110.toNat * 10 + 2) fa61_1 J rfl rfl) rfl, puOn rfl rfl rfl rfl [(56, .bool (!(x122.f2.f0 == x125.f2.f0))), (61, .pointer (some (ea A0 (x110.toNat * 10 + 3))))] rfl hb134 (fun U J => y_lda (cs := [.int .i64 x122.f2.f1.f0, .int .i64 x122.f2.f1.f1]) uu56 sz56 (lde 3 hc135 rfl) J rfl rfl rfl) rfl, puOn rfl rfl rfl rfl [(1, .slice A1 n1 c1), (56, .bool (!(x122.f2.f0 == x125.f2.f0)))] rfl hb134 (fun U J => y_move J rfl rfl) rfl, puOn rfl rfl rfl rfl [(5, .int .i64 x110), (56, .bool (!(x122.f2.f0 == x125.f2.f0)))] rfl hb134 (fun U J => y_move J rfl rfl) rfl, puOn rfl rfl rfl rfl [(56, .bool (!(x122.f2.f0 == x125.f2.f0))), (63, .slice A1 n1 c1), (64, .int .i64 x110)] rfl hb134 (fun U J => y_ia uu31 sz63 (X.rdl 0 ha1 rfl) h126 J rfl rfl rfl) rfl, puOn rfl rfl rfl rfl [(56, .bool (!(x122.f2.f0 == x125.f2.f0))), (65, .pointer (some (ea A1 (x110.toNat * 10))))] rfl hb134 (fun U J => y_fae (m := x110.toNat * 10) fa63_2 J rfl rfl) rfl, puOn rfl rfl rfl rfl [(56, .bool (!(x122.f2.f0 == x125.f2.f0))), (66, .pointer (some (ea A1 (x110.toNat * 10 + 2))))] rfl hb134 (fun U J => y_fae (m := x110.toNat * 10 + 2) fa61_1 J rfl rfl) rfl, puOn rfl rfl rfl rfl [(56, .bool (!(x122.f2.f0 == x125.f2.f0))), (67, .pointer (some (ea A1 (x110.toNat * 10 + 3))))] rfl hb134 (fun U J => y_lda (cs := [.int .i64 x125.f2.f1.f0, .int .i64 x125.f2.f1.f1]) uu56 sz56 (lde 3 hc136 rfl) J rfl rfl rfl) rfl, puOn rfl rfl rfl rfl [(56, .bool (!(x122.f2.f0 == x125.f2.f0))), (62, .agg #[.int .i64 x122.f2.f1.f0, .int .i64 x122.f2.f1.f1]), (68, .agg #[.int .i64 x125.f2.f1.f0, .int .i64 x125.f2.f1.f1])] rfl hb134 (fun U J => r_neA gt56 (eqs56 x122.f2.f1 x125.f2.f1) rfl (J.ev rfl) (J.ev rfl)) rfl, pt [(56, .bool (!(x122.f2.f0 == x125.f2.f0))), (69, .bool (!eq56 x122.f2.f1 x125.f2.f1))] rfl (fun U J => y_pickf hb134 J rfl rfl rfl), pm rfl, puOff rfl rfl rfl rfl [(0, .slice A0 n0 c0), (71, .bool (!eq56 x122.f2.f1 x125.f2.f1))] rfl hb137 rfl, puOff rfl rfl rfl rfl [(5, .int .i64 x110), (71, .bool (!eq56 x122.f2.f1 x125.f2.f1))] rfl hb137 rfl, puOff rfl rfl rfl rfl [(71, .bool (!eq56 x122.f2.f1 x125.f2.f1)), (72, undef), (73, undef)] rfl hb137 rfl, puOff rfl rfl rfl rfl [(71, .bool (!eq56 x122.f2.f1 x125.f2.f1)), (74, undef)] rfl hb137 rfl, puOff rfl rfl rfl rfl [(71, .bool (!eq56 x122.f2.f1 x125.f2.f1)), (75, undef)] rfl hb137 rfl, puOff rfl rfl rfl rfl [(71, .bool (!eq56 x122.f2.f1 x125.f2.f1)), (76, undef)] rfl hb137 rfl, puOff rfl rfl rfl rfl [(1, .slice A1 n1 c1), (71, .bool (!eq56 x122.f2.f1 x125.f2.f1))] rfl hb137 rfl, puOff rfl rfl rfl rfl [(5, .int .i64 x110), (71, .bool (!eq56 x122.f2.f1 x125.f2.f1))] rfl hb137 rfl, puOff rfl rfl rfl rfl [(71, .bool (!eq56 x122.f2.f1 x125.f2.f1)), (78, undef), (79, undef)] rfl hb137 rfl, puOff rfl rfl rfl rfl [(71, .bool (!eq56 x122.f2.f1 x125.f2.f1)), (80, undef)] rfl hb137 rfl, puOff rfl rfl rfl rfl [(71, .bool (!eq56 x122.f2.f1 x125.f2.f1)), (81, undef)] rfl hb137 rfl, puOff rfl rfl rfl rfl [(71, .bool (!eq56 x122.f2.f1 x125.f2.f1)), (82, undef)] rfl hb137 rfl, trivial⟩ ⟨?_, trivial⟩
   refine efOff rfl rfl rfl [(71, .bool (!eq56 x122.f2.f1 x125.f2.f1)), (77, undef), (83, undef)] rfl [(68, undef), (69, .bool true)] hb137 rfl ?_ rfl
   refine dEnd [68, 69] (by kernel_rfl) ⟨puOff rfl rfl rfl rfl [(71, .bool (!eq56 x122.f2.f1 x125.f2.f1)), (84, undef)] rfl hb137 rfl, pt [(71, .bool (!eq56 x122.f2.f1 x125.f2.f1)), (85, undef)] rfl (fun U J => y_pickt hb137 J rfl rfl rfl), trivial⟩ ⟨by kernel_rfl, by kernel_rfl⟩ [(0, .slice A0 n0 c0), (1, .slice A1 n1 c1), (5, .int .i64 x110), (29, .slice A0 n0 c0), (30, .int .i64 x110), (33, .int .u64 x122.f1), (34, .slice A1 n1 c1), (35, .int .i64 x110), (38, .int .u64 x125.f1), (39, .bool (x122.f1 != x125.f1)), (42, .slice A0 n0 c0), (43, .int .i64 x110), (47, str x122.f2.f0), (48, .slice A1 n1 c1), (49, .int .i64 x110), (53, str x125.f2.f0), (54, .bool (!(x122.f2.f0 == x125.f2.f0))), (57, .slice A0 n0 c0), (58, .int .i64 x110), (62, .agg #[.int .i64 x122.f2.f1.f0, .int .i64 x122.f2.f1.f1]), (63, .slice A1 n1 c1), (64, .int .i64 x110), (68, .agg #[.int .i64 x125.f2.f1.f0, .int .i64 x125.f2.f1.f1]), (69, .bool (!eq56 x122.f2.f1 x125.f2.f1)), (86, .bool true)] rfl (fun U J => ?_)
   exact hj1 true G U w (J.sub _ rfl) X
  replace G := iff' hb137 G
  obtain ⟨cs, hV, hc138⟩ := el (X.rdl 0 ha0 rfl) h123
  obtain rfl := hV
  obtain ⟨cs, hV, hc139⟩ := el (X.rdl 0 ha1 rfl) h126
  obtain rfl := hV
  refine ⟨[(0, .slice A0 n0 c0), (1, .int .i64 x110), (2, .pointer (some (ea A0 (x110.toNat * 10)))), (3, .pointer (some (ea A0 (x110.toNat * 10)))), (4, .bool x122.f0), (5, .slice A1 n1 c1), (6, .int .i64 x110), (7, .pointer (some (ea A1 (x110.toNat * 10)))), (8, .pointer (some (ea A1 (x110.toNat * 10)))), (9, .bool x125.f0), (10, .bool (!(x122.f0 == x125.f0))), (11, .bool (!(x122.f0 == x125.f0))), (12, .slice A0 n0 c0), (13, .int .i64 x110), (14, .pointer (some (ea A0 (x110.toNat * 10)))), (15, .pointer (some (ea A0 (x110.toNat * 10 + 1)))), (16, .int .u64 x122.f1), (17, .slice A1 n1 c1), (18, .int .i64 x110), (19, .pointer (some (ea A1 (x110.toNat * 10)))), (20, .pointer (some (ea A1 (x110.toNat * 10 + 1)))), (21, .int .u64 x125.f1), (22, .bool (x122.f1 != x125.f1)), (23, .bool (x122.f1 != x125.f1)), (24, .bool (x122.f1 != x125.f1)), (25, .slice A0 n0 c0), (26, .int .i64 x110), (27, .pointer (some (ea A0 (x110.toNat * 10)))), (28, .pointer (some (ea A0 (x110.toNat * 10 + 2)))), (29, .pointer (some (ea A0 (x110.toNat * 10 + 2)))), (30, str x122.f2.f0), (31, .slice A1 n1 c1), (32, .int .i64 x110), (33, .pointer (some (ea A1 (x110.toNat * 10)))), (34, .pointer (some (ea A1 (x110.toNat * 10 + 2)))), (35, .pointer (some (ea A1 (x110.toNat * 10 + 2)))), (36, str x125.f2.f0), (37, .bool (!(x122.f2.f0 == x125.f2.f0))), (38, .bool (!(x122.f2.f0 == x125.f2.f0))), (39, .bool (!(x122.f2.f0 == x125.f2.f0))), (40, .slice A0 n0 c0), (41, .int .i64 x110), (42, .pointer (some (ea A0 (x110.toNat * 10)))), (43, .pointer (some (ea A0 (x110.toNat * 10 + 2)))), (44, .pointer (some (ea A0 (x110.toNat * 10 + 3)))), (45, .agg #[.int .i64 x122.f2.f1.f0, .int .i64 x122.f2.f1.f1]), (46, .slice A1 n1 c1), (47, .int .i64 x110), (48, .pointer (some (ea A1 (x110.toNat * 10)))), (49, .pointer (some (ea A1 (x110.toNat * 10 + 2)))), (50, .pointer (some (ea A1 (x110.toNat * 10 + 3)))), (51, .agg #[.int .i64 x125.f2.f1.f0, .int .i64 x125.f2.f1.f1]), (52, .bool (!eq56 x122.f2.f1 x125.f2.f1)), (53, .bool (!eq56 x122.f2.f1 x125.f2.f1)), (54, .bool (!eq56 x122.f2.f1 x125.f2.f1)), (55, .slice A0 n0 c0), (56, .int .i64 x110), (57, .pointer (some (ea A0 (x110.toNat * 10)))), (58, .pointer (some (ea A0 (x110.toNat * 10 + 2)))), (59, .pointer (some (ea A0 (x110.toNat * 10 + 5)))), (60, .agg #[.int .u64 x122.f2.f2.f0, .float .f64 x122.f2.f2.f1, .bool x122.f2.f2.f2, .float .f64 x122.f2.f2.f3, .float .f64 x122.f2.f2.f4]), (61, .slice A1 n1 c1), (62, .int .i64 x110), (63, .pointer (some (ea A1 (x110.toNat * 10)))), (64, .pointer (some (ea A1 (x110.toNat * 10 + 2)))), (65, .pointer (some (ea A1 (x110.toNat * 10 + 5)))), (66, .agg #[.int .u64 x125.f2.f2.f0, .float .f64 x125.f2.f2.f1, .bool x125.f2.f2.f2, .float .f64 x125.f2.f2.f3, .float .f64 x125.f2.f2.f4])], ?_⟩
  refine dF [0, 1, 2, 3, 4, 5, 6, 7, 8, 9, 10, 11, 12, 13, 14, 15, 16, 17, 18, 19, 20, 21, 22, 23, 24, 25, 26, 27, 28, 29, 30, 31, 32, 33, 34, 35, 36, 37, 38, 39, 40, 41, 42, 43, 44, 45, 46, 47, 48, 49, 50, 51, 52, 53, 54, 55, 56, 57, 58, 59, 60, 61, 62, 63, 64, 65, 66] [67] (by kernel_rfl) ⟨pm rfl, pm rfl, pt [(17, .slice A0 n0 c0), (18, .int .i64 x110)] rfl (fun U J => y_ia uu31 sz63 (X.rdl 0 ha0 rfl) h123 J rfl rfl rfl), pt [(19, .pointer (some (ea A0 (x110.toNat * 10))))] rfl (fun U J => y_fae (m := x110.toNat * 10) fa63_0 J rfl rfl), pt [(20, .pointer (some (ea A0 (x110.toNat * 10))))] rfl (fun U J => y_ld uu4 (hc124 0 _ rfl) J rfl rfl rfl), pm rfl, pm rfl, pt [(22, .slice A1 n1 c1), (23, .int .i64 x110)] rfl (fun U J => y_ia uu31 sz63 (X.rdl 0 ha1 rfl) h126 J rfl rfl rfl), pt [(24, .pointer (some (ea A1 (x110.toNat * 10))))] rfl (fun U J => y_fae (m := x110.toNat * 10) fa63_0 J rfl rfl), pt [(25, .pointer (some (ea A1 (x110.toNat * 10))))] rfl (fun U J => y_ld uu4 (hc127 0 _ rfl) J rfl rfl rfl), pt [(21, .bool x122.f0), (26, .bool x125.f0)] rfl (fun U J => r_neB uu4 rfl (J.ev rfl) (J.ev rfl)), pm rfl, puOn rfl rfl rfl rfl [(0, .slice A0 n0 c0), (28, .bool (!(x122.f0 == x125.f0)))] rfl hb128 (fun U J => y_move J rfl rfl) rfl, puOn rfl rfl rfl rfl [(5, .int .i64 x110), (28, .bool (!(x122.f0 == x125.f0)))] rfl hb128 (fun U J => y_move J rfl rfl) rfl, puOn rfl rfl rfl rfl [(28, .bool (!(x122.f0 == x125.f0))), (29, .slice A0 n0 c0), (30, .int .i64 x110)] rfl hb128 (fun U J => y_ia uu31 sz63 (X.rdl 0 ha0 rfl) h123 J rfl rfl rfl) rfl, puOn rfl rfl rfl rfl [(28, .bool (!(x122.f0 == x125.f0))), (31, .pointer (some (ea A0 (x110.toNat * 10))))] rfl hb128 (fun U J => y_fae (m := x110.toNat * 10) fa63_1 J rfl rfl) rfl, puOn rfl rfl rfl rfl [(28, .bool (!(x122.f0 == x125.f0))), (32, .pointer (some (ea A0 (x110.toNat * 10 + 1))))] rfl hb128 (fun U J => y_ld uu30 (hc129 1 _ rfl) J rfl rfl rfl) rfl, puOn rfl rfl rfl rfl [(1, .slice A1 n1 c1), (28, .bool (!(x122.f0 == x125.f0)))] rfl hb128 (fun U J => y_move J rfl rfl) rfl, puOn rfl rfl rfl rfl [(5, .int .i64 x110), (28, .bool (!(x122.f0 == x125.f0)))] rfl hb128 (fun U J => y_move J rfl rfl) rfl, puOn rfl rfl rfl rfl [(28, .bool (!(x122.f0 == x125.f0))), (34, .slice A1 n1 c1), (35, .int .i64 x110)] rfl hb128 (fun U J => y_ia uu31 sz63 (X.rdl 0 ha1 rfl) h126 J rfl rfl rfl) rfl, puOn rfl rfl rfl rfl [(28, .bool (!(x122.f0 == x125.f0))), (36, .pointer (some (ea A1 (x110.toNat * 10))))] rfl hb128 (fun U J => y_fae (m := x110.toNat * 10) fa63_1 J rfl rfl) rfl, puOn rfl rfl rfl rfl [(28, .bool (!(x122.f0 == x125.f0))), (37, .pointer (some (ea A1 (x110.toNat * 10 + 1))))] rfl hb128 (fun U J => y_ld uu30 (hc130 1 _ rfl) J rfl rfl rfl) rfl, puOn rfl rfl rfl rfl [(28, .bool (!(x122.f0 == x125.f0))), (33, .int .u64 x122.f1), (38, .int .u64 x125.f1)] rfl hb128 (fun U J => r_neI rfl (J.ev rfl) (J.ev rfl)) rfl, pt [(28, .bool (!(x122.f0 == x125.f0))), (39, .bool (x122.f1 != x125.f1))] rfl (fun U J => y_pickf hb128 J rfl rfl rfl), pm rfl, puOn rfl rfl rfl rfl [(0, .slice A0 n0 c0), (41, .bool (x122.f1 != x125.f1))] rfl hb131 (fun U J => y_move J rfl rfl) rfl, puOn rfl rfl rfl rfl [(5, .int .i64 x110), (41, .bool (x122.f1 != x125.f1))] rfl hb131 (fun U J => y_move J rfl rfl) rfl, puOn rfl rfl rfl rfl [(41, .bool (x122.f1 != x125.f1)), (42, .slice A0 n0 c0), (43, .int .i64 x110)] rfl hb131 (fun U J => y_ia uu31 sz63 (X.rdl 0 ha0 rfl) h123 J rfl rfl rfl) rfl, puOn rfl rfl rfl rfl [(41, .bool (x122.f1 != x125.f1)), (44, .pointer (some (ea A0 (x110.toNat * 10))))] rfl hb131 (fun U J => y_fae (m := x110.toNat * 10) fa63_2 J rfl rfl) rfl, puOn rfl rfl rfl rfl [(41, .bool (x122.f1 != x125.f1)), (45, .pointer (some (ea A0 (x110.toNat * 10 + 2))))] rfl hb131 (fun U J => y_fae (m := x110.toNat * 10 + 2) fa61_0 J rfl rfl) rfl, puOn rfl rfl rfl rfl [(41, .bool (x122.f1 != x125.f1)), (46, .pointer (some (ea A0 (x110.toNat * 10 + 2))))] rfl hb131 (fun U J => y_ld uu9 (hc132 2 _ rfl) J rfl rfl rfl) rfl, puOn rfl rfl rfl rfl [(1, .slice A1 n1 c1), (41, .bool (x122.f1 != x125.f1))] rfl hb131 (fun U J => y_move J rfl rfl) rfl, puOn rfl rfl rfl rfl [(5, .int .i64 x110), (41, .bool (x122.f1 != x125.f1))] rfl hb131 (fun U J => y_move J rfl rfl) rfl, puOn rfl rfl rfl rfl [(41, .bool (x122.f1 != x125.f1)), (48, .slice A1 n1 c1), (49, .int .i64 x110)] rfl hb131 (fun U J => y_ia uu31 sz63 (X.rdl 0 ha1 rfl) h126 J rfl rfl rfl) rfl, puOn rfl rfl rfl rfl [(41, .bool (x122.f1 != x125.f1)), (50, .pointer (some (ea A1 (x110.toNat * 10))))] rfl hb131 (fun U J => y_fae (m := x110.toNat * 10) fa63_2 J rfl rfl) rfl, puOn rfl rfl rfl rfl [(41, .bool (x122.f1 != x125.f1)), (51, .pointer (some (ea A1 (x110.toNat * 10 + 2))))] rfl hb131 (fun U J => y_fae (m := x110.toNat * 10 + 2) fa61_0 J rfl rfl) rfl, puOn rfl rfl rfl rfl [(41, .bool (x122.f1 != x125.f1)), (52, .pointer (some (ea A1 (x110.toNat * 10 + 2))))] rfl hb131 (fun U J => y_ld uu9 (hc133 2 _ rfl) J rfl rfl rfl) rfl, puOn rfl rfl rfl rfl [(41, .bool (x122.f1 != x125.f1)), (47, str x122.f2.f0), (53, str x125.f2.f0)] rfl hb131 (fun U J => r_neS rfl (J.ev rfl) (J.ev rfl)) rfl, pt [(41, .bool (x122.f1 != x125.f1)), (54, .bool (!(x122.f2.f0 == x125.f2.f0)))] rfl (fun U J => y_pickf hb131 J rfl rfl rfl), pm rfl, puOn rfl rfl rfl rfl [(0, .slice A0 n0 c0), (56, .bool (!(x122.f2.f0 == x125.f2.f0)))] rfl hb134 (fun U J => y_move J rfl rfl) rfl, puOn rfl rfl rfl rfl [(5, .int .i64 x110), (56, .bool (!(x122.f2.f0 == x125.f2.f0)))] rfl hb134 (fun U J => y_move J rfl rfl) rfl, puOn rfl rfl rfl rfl [(56, .bool (!(x122.f2.f0 == x125.f2.f0))), (57, .slice A0 n0 c0), (58, .int .i64 x110)] rfl hb134 (fun U J => y_ia uu31 sz63 (X.rdl 0 ha0 rfl) h123 J rfl rfl rfl) rfl, puOn rfl rfl rfl rfl [(56, .bool (!(x122.f2.f0 == x125.f2.f0))), (59, .pointer (some (ea A0 (x110.toNat * 10))))] rfl hb134 (fun U J => y_fae (m := x110.toNat * 10) fa63_2 J rfl rfl) rfl, puOn rfl rfl rfl rfl [(56, .bool (!(x122.f2.f0 == x125.f2.f0))), (60, .pointer (some (ea A0 (x110.toNat * 10 + 2))))] rfl hb134 (fun U J => y_fae (m := x110.toNat * 10 + 2) fa61_1 J rfl rfl) rfl, puOn rfl rfl rfl rfl [(56, .bool (!(x122.f2.f0 == x125.f2.f0))), (61, .pointer (some (ea A0 (x110.toNat * 10 + 3))))] rfl hb134 (fun U J => y_lda (cs := [.int .i64 x122.f2.f1.f0, .int .i64 x122.f2.f1.f1]) uu56 sz56 (lde 3 hc135 rfl) J rfl rfl rfl) rfl, puOn rfl rfl rfl rfl [(1, .slice A1 n1 c1), (56, .bool (!(x122.f2.f0 == x125.f2.f0)))] rfl hb134 (fun U J => y_move J rfl rfl) rfl, puOn rfl rfl rfl rfl [(5, .int .i64 x110), (56, .bool (!(x122.f2.f0 == x125.f2.f0)))] rfl hb134 (fun U J => y_move J rfl rfl) rfl, puOn rfl rfl rfl rfl [(56, .bool (!(x122.f2.f0 == x125.f2.f0))), (63, .slice A1 n1 c1), (64, .int .i64 x110)] rfl hb134 (fun U J => y_ia uu31 sz63 (X.rdl 0 ha1 rfl) h126 J rfl rfl rfl) rfl, puOn rfl rfl rfl rfl [(56, .bool (!(x122.f2.f0 == x125.f2.f0))), (65, .pointer (some (ea A1 (x110.toNat * 10))))] rfl hb134 (fun U J => y_fae (m := x110.toNat * 10) fa63_2 J rfl rfl) rfl, puOn rfl rfl rfl rfl [(56, .bool (!(x122.f2.f0 == x125.f2.f0))), (66, .pointer (some (ea A1 (x110.toNat * 10 + 2))))] rfl hb134 (fun U J => y_fae (m := x110.toNat * 10 + 2) fa61_1 J rfl rfl) rfl, puOn rfl rfl rfl rfl [(56, .bool (!(x122.f2.f0 == x125.f2.f0))), (67, .pointer (some (ea A1 (x110.toNat * 10 + 3))))] rfl hb134 (fun U J => y_lda (cs := [.int .i64 x125.f2.f1.f0, .int .i64 x125.f2.f1.f1]) uu56 sz56 (lde 3 hc136 rfl) J rfl rfl rfl) rfl, puOn rfl rfl rfl rfl [(56, .bool (!(x122.f2.f0 == x125.f2.f0))), (62, .agg #[.int .i64 x122.f2.f1.f0, .int .i64 x122.f2.f1.f1]), (68, .agg #[.int .i64 x125.f2.f1.f0, .int .i64 x125.f2.f1.f1])] rfl hb134 (fun U J => r_neA gt56 (eqs56 x122.f2.f1 x125.f2.f1) rfl (J.ev rfl) (J.ev rfl)) rfl, pt [(56, .bool (!(x122.f2.f0 == x125.f2.f0))), (69, .bool (!eq56 x122.f2.f1 x125.f2.f1))] rfl (fun U J => y_pickf hb134 J rfl rfl rfl), pm rfl, puOn rfl rfl rfl rfl [(0, .slice A0 n0 c0), (71, .bool (!eq56 x122.f2.f1 x125.f2.f1))] rfl hb137 (fun U J => y_move J rfl rfl) rfl, puOn rfl rfl rfl rfl [(5, .int .i64 x110), (71, .bool (!eq56 x122.f2.f1 x125.f2.f1))] rfl hb137 (fun U J => y_move J rfl rfl) rfl, puOn rfl rfl rfl rfl [(71, .bool (!eq56 x122.f2.f1 x125.f2.f1)), (72, .slice A0 n0 c0), (73, .int .i64 x110)] rfl hb137 (fun U J => y_ia uu31 sz63 (X.rdl 0 ha0 rfl) h123 J rfl rfl rfl) rfl, puOn rfl rfl rfl rfl [(71, .bool (!eq56 x122.f2.f1 x125.f2.f1)), (74, .pointer (some (ea A0 (x110.toNat * 10))))] rfl hb137 (fun U J => y_fae (m := x110.toNat * 10) fa63_2 J rfl rfl) rfl, puOn rfl rfl rfl rfl [(71, .bool (!eq56 x122.f2.f1 x125.f2.f1)), (75, .pointer (some (ea A0 (x110.toNat * 10 + 2))))] rfl hb137 (fun U J => y_fae (m := x110.toNat * 10 + 2) fa61_2 J rfl rfl) rfl, puOn rfl rfl rfl rfl [(71, .bool (!eq56 x122.f2.f1 x125.f2.f1)), (76, .pointer (some (ea A0 (x110.toNat * 10 + 5))))] rfl hb137 (fun U J => y_lda (cs := [.int .u64 x122.f2.f2.f0, .float .f64 x122.f2.f2.f1, .bool x122.f2.f2.f2, .float .f64 x122.f2.f2.f3, .float .f64 x122.f2.f2.f4]) uu59 sz59 (lde 5 hc138 rfl) J rfl rfl rfl) rfl, puOn rfl rfl rfl rfl [(1, .slice A1 n1 c1), (71, .bool (!eq56 x122.f2.f1 x125.f2.f1))] rfl hb137 (fun U J => y_move J rfl rfl) rfl, puOn rfl rfl rfl rfl [(5, .int .i64 x110), (71, .bool (!eq56 x122.f2.f1 x125.f2.f1))] rfl hb137 (fun U J => y_move J rfl rfl) rfl, puOn rfl rfl rfl rfl [(71, .bool (!eq56 x122.f2.f1 x125.f2.f1)), (78, .slice A1 n1 c1), (79, .int .i64 x110)] rfl hb137 (fun U J => y_ia uu31 sz63 (X.rdl 0 ha1 rfl) h126 J rfl rfl rfl) rfl, puOn rfl rfl rfl rfl [(71, .bool (!eq56 x122.f2.f1 x125.f2.f1)), (80, .pointer (some (ea A1 (x110.toNat * 10))))] rfl hb137 (fun U J => y_fae (m := x110.toNat * 10) fa63_2 J rfl rfl) rfl, puOn rfl rfl rfl rfl [(71, .bool (!eq56 x122.f2.f1 x125.f2.f1)), (81, .pointer (some (ea A1 (x110.toNat * 10 + 2))))] rfl hb137 (fun U J => y_fae (m := x110.toNat * 10 + 2) fa61_2 J rfl rfl) rfl, puOn rfl rfl rfl rfl [(71, .bool (!eq56 x122.f2.f1 x125.f2.f1)), (82, .pointer (some (ea A1 (x110.toNat * 10 + 5))))] rfl hb137 (fun U J => y_lda (cs := [.int .u64 x125.f2.f2.f0, .float .f64 x125.f2.f2.f1, .bool x125.f2.f2.f2, .float .f64 x125.f2.f2.f3, .float .f64 x125.f2.f2.f4]) uu59 sz59 (lde 5 hc139 rfl) J rfl rfl rfl) rfl, trivial⟩ ⟨efOn rfl rfl rfl [(71, .bool (!eq56 x122.f2.f1 x125.f2.f1)), (77, .agg #[.int .u64 x122.f2.f2.f0, .float .f64 x122.f2.f2.f1, .bool x122.f2.f2.f2, .float .f64 x122.f2.f2.f3, .float .f64 x122.f2.f2.f4]), (83, .agg #[.int .u64 x125.f2.f2.f0, .float .f64 x125.f2.f2.f1, .bool x125.f2.f2.f2, .float .f64 x125.f2.f2.f3, .float .f64 x125.f2.f2.f4])] rfl hb137 (fun U J K hK => ?_) rfl, trivial⟩
  obtain ⟨y140, h141, G⟩ := bnd G
  refine z_call' en59 J (F_r12_Same (L := L) x122.f2.f2 x125.f2.f2 h141 X) (fun v w hR => ?_) rfl
  obtain ⟨rfl, X⟩ := hR
  refine hK _ [(68, .bool (!y140)), (69, .bool (!y140))] _ rfl ?_
  refine dEnd [68, 69] (by kernel_rfl) ⟨puOn rfl rfl rfl rfl [(71, .bool (!eq56 x122.f2.f1 x125.f2.f1)), (84, .bool y140)] rfl hb137 (fun U J => r_not rfl (J.ev rfl)) rfl, pt [(71, .bool (!eq56 x122.f2.f1 x125.f2.f1)), (85, .bool (!y140))] rfl (fun U J => y_pickf hb137 J rfl rfl rfl), trivial⟩ ⟨by kernel_rfl, by kernel_rfl⟩ [(0, .slice A0 n0 c0), (1, .slice A1 n1 c1), (5, .int .i64 x110), (29, .slice A0 n0 c0), (30, .int .i64 x110), (33, .int .u64 x122.f1), (34, .slice A1 n1 c1), (35, .int .i64 x110), (38, .int .u64 x125.f1), (39, .bool (x122.f1 != x125.f1)), (42, .slice A0 n0 c0), (43, .int .i64 x110), (47, str x122.f2.f0), (48, .slice A1 n1 c1), (49, .int .i64 x110), (53, str x125.f2.f0), (54, .bool (!(x122.f2.f0 == x125.f2.f0))), (57, .slice A0 n0 c0), (58, .int .i64 x110), (62, .agg #[.int .i64 x122.f2.f1.f0, .int .i64 x122.f2.f1.f1]), (63, .slice A1 n1 c1), (64, .int .i64 x110), (68, .agg #[.int .i64 x125.f2.f1.f0, .int .i64 x125.f2.f1.f1]), (69, .bool (!eq56 x122.f2.f1 x125.f2.f1)), (72, .slice A0 n0 c0), (73, .int .i64 x110), (77, .agg #[.int .u64 x122.f2.f2.f0, .float .f64 x122.f2.f2.f1, .bool x122.f2.f2.f2, .float .f64 x122.f2.f2.f3, .float .f64 x122.f2.f2.f4]), (78, .slice A1 n1 c1), (79, .int .i64 x110), (83, .agg #[.int .u64 x125.f2.f2.f0, .float .f64 x125.f2.f2.f1, .bool x125.f2.f2.f2, .float .f64 x125.f2.f2.f3, .float .f64 x125.f2.f2.f4]), (84, .bool y140), (85, .bool (!y140)), (86, .bool (!y140))] rfl (fun U J => ?_)
  exact hj1 (!y140) G U w (J.sub _ rfl) X
 replace G := iff' hb113 G
 refine wp_exit ?_
 cases G
 exact hx109_0 (T109_ _ rfl) U w (J.sub _ rfl) X
noncomputable section
set_option linter.unusedSimpArgs false
def law18_fine_b1 (l1331 : (List S63)) : Option ((List S63)) :=
  some l1331
def law18_fine_x1_0 (l1611 : (List S63)) : Option ((List S63)) :=
  law18_fine_b1 l1611
def law18_fine_b2 (x1479 : Int) (l1707 : (List S63)) : Option (((List S63) × Int) ⊕ (((List S63)))) :=
  ltt (IntKind.i64.wrap (x1479 + 1)) fun x1711 => (some (.inl (l1707, x1711)))
def law18_fine_j2 (a0 : (List S63)) (l1475 : (List S63)) (x1479 : Int) (b1721 : Bool) : Option (((List S63) × Int) ⊕ (((List S63)))) :=
  if b1721 = true then ((at_ a0 x1479).bind fun x1723 => (chk (l1475.length + [x1723].length ≤ 140737488355328 / 88) (law18_fine_b2 x1479 (l1475 ++ [x1723])))) else (law18_fine_b2 x1479 l1475)
def law18_fine_j1 (a0 : (List S63)) (l1475 : (List S63)) (x1479 : Int) (b1619 : Bool) : Option (((List S63) × Int) ⊕ (((List S63)))) :=
  if b1619 = true then ((at_ a0 x1479).bind fun x1731 => (if (decide (x1731.f1 ≤ 1099511627776)) = true then (if (decide ((x1731.f2.f0.length : Int) ≤ 32)) = true then (law18_fine_j2 a0 l1475 x1479 (decide (x1731.f2.f2.f0 ≤ 1099511627776))) else (law18_fine_j2 a0 l1475 x1479 false)) else (law18_fine_j2 a0 l1475 x1479 false))) else (some (.inr (l1475)))
def law18_fine_l1 (a0 : (List S63)) (l1475 : (List S63)) (x1479 : Int) : Option (((List S63) × Int) ⊕ (((List S63)))) :=
  if (decide (x1479 < (a0.length : Int))) = true then (law18_fine_j1 a0 l1475 x1479 (decide (x1479 < 10))) else (law18_fine_j1 a0 l1475 x1479 false)
def law18_fine (a0 : (List S63)) : Option ((List S63)) :=
  (loop (fun s => law18_fine_l1 a0 s.1 s.2) ([], 0)).bind fun t => law18_fine_x1_0 t
def law18_has (a0 : Int) (a1 : (List Int)) (a2 : (List S63)) (a3 : S33) : Option (Bool) :=
  if (a0 == a3.f0) = true then (if ((bts a1) == a3.f1) = true then ((r17_Same a2 a3.f2).bind fun y106 => (some y106)) else (some false)) else (some false)
def law18_awake_j1 (o156 : (Option S66)) (b157 : Bool) : Option (Bool) :=
  if b157 = true then (some false) else ((commit_Recover o156).bind fun y161 => (if (y161.2.2.2.1 == 0) = true then (if (y161.1 == 2) = true then (if ((bts y161.2.1) == [98]) = true then (if ((y161.2.2.1.length : Int) == 2) = true then ((at_ y161.2.2.1 1).bind fun x177 => (some (x177.f2.f0 == [121]))) else (some false)) else (some false)) else (some false)) else (some false)))
def law18_awake : Option (Bool) :=
  (files_New 65536).bind fun y103 => ((commit_Put y103.1 1 [97] [(⟨true, 0, (⟨[120], (⟨0, 0⟩ : S56), (⟨0, 0, false, 0, 0⟩ : S59)⟩ : S61)⟩ : S63)]).bind fun y190 => (if (y190.1 != 0) = true then (law18_awake_j1 y190.2 true) else ((commit_Put y190.2 2 [98] [(⟨true, 0, (⟨[121], (⟨0, 0⟩ : S56), (⟨0, 0, false, 0, 0⟩ : S59)⟩ : S61)⟩ : S63)]).bind fun y212 => (law18_awake_j1 y212.2 (y212.1 != 0)))))
end
theorem F_law18_fine {r : World} {L : List HP} {w : World} (a0 : (List S63)) (A0 : Option Addr) (n0 : Nat) (c0 : Nat) {y : ((List S63))} (G : law18_fine a0 = some y) (ha0 : RdL L k63 A0 n0 c0 a0) (X : SH r (L) w) :
  Ret Tryz.prog 10 #[.slice A0 n0 c0] w fun v w' => ∃ (B0 : Option Addr) (m0 : Nat) (d0 : Nat), v = .slice B0 m0 d0 ∧ SH r (own k63 63 B0 m0 d0 y :: L) w' := by
 refine enter Tryz.func10 rfl Tryz.ntmps10 [(0, .slice A0 n0 c0)] rfl (by simp) ?_
 intro U J Qf hQ hQn
 unfold law18_fine at G
 refine ws fun K100 hK100 => ?_
 refine x_m J rfl fun U J => ?_
 refine wn (hK100 _ _ ?_)
 refine ws fun K101 hK101 => ?_
 refine x_m J rfl fun U J => ?_
 refine wn (hK101 _ _ ?_)
 refine wp_seq_k fun K102 hK102 => ?_
 refine ws fun K103 hK103 => ?_
 refine x_m J rfl fun U J => ?_
 refine wn (hK103 _ _ ?_)
 refine wp_block_k fun Kx104 hKx104 => ?_
 have hb1 : ∀ (l105 : (List S63)), law18_fine_b1 l105 = some y → ∀ (A106 : Option Addr) (n107 : Nat) (c108 : Nat) (U : Act) (w : World), FR 49 [] U [(3, .slice A106 n107 c108)] → SH r (own k63 63 A106 n107 c108 l105 :: L) w → Kx104 U w := by
  intro l105 G A106 n107 c108 U w J X
  unfold law18_fine_b1 at G
  refine hKx104 _ _ ?_
  refine hK102 _ _ ?_
  refine ws fun K109 hK109 => ?_
  refine x_m J rfl fun U J => ?_
  refine x_m J rfl fun U J => ?_
  refine wn (hK109 _ _ ?_)
  refine wp_ret ?_
  cases G
  refine hQ _ _ ?_
  refine lv Tryz.results10 J rfl ?_
  exact ⟨A106, n107, c108, rfl, X⟩
 obtain ⟨t110, hl110, G⟩ := bnd G
 have hx110_0 : ∀ (l111 : (List S63)), (l111) = t110 → ∀ (A112 : Option Addr) (n113 : Nat) (c110 : Nat) (U : Act) (w : World), FR 49 [] U [(3, .slice A112 n113 c110)] → SH r (own k63 63 A112 n113 c110 l111 :: L) w → Kx104 U w := by
  intro l111 ht A112 n113 c110 U w J X
  subst ht
  replace G : law18_fine_x1_0 l111 = some y := G
  unfold law18_fine_x1_0 at G
  exact hb1 l111 G A112 n113 c110 U w (J.sub _ rfl) X
 replace X := SH.nil_own (d := k63) (e := 63) X
 refine wp_loop_fn hl110 (fun s U w => ∃ (A114 : Option Addr) (n115 : Nat) (c116 : Nat), FR 49 [] U [(0, .slice A0 n0 c0), (3, .slice A114 n115 c116), (4, .int .i64 s.2)] ∧ SH r (own k63 63 A114 n115 c116 s.1 :: L) w) ⟨none, 0, 0, J.sub _ rfl, X⟩ ?_
 intro N110 s110 o110 G N110_ T110_ U w hLab
 obtain ⟨l117, x118⟩ := s110
 replace G : law18_fine_l1 a0 l117 x118 = some o110 := G
 unfold law18_fine_l1 at G
 try dsimp only at hLab
 obtain ⟨A114, n115, c116, J, X⟩ := hLab
 refine wp_seq_k fun K119 hK119 => ?_
 refine wp_seq_k fun K120 hK120 => ?_
 have hj1 : ∀ (b121 : Bool), law18_fine_j1 a0 l117 x118 b121 = some o110 → ∀ (U : Act) (w : World), FR 49 [] U [(0, .slice A0 n0 c0), (3, .slice A114 n115 c116), (4, .int .i64 x118), (12, .bool b121)] → SH r (own k63 63 A114 n115 c116 l117 :: L) w → K120 U w := by
  intro b121 G U w J X
  unfold law18_fine_j1 at G
  refine hK120 _ _ ?_
  refine c_if J rfl (fun hb122 => ?_) fun hb122 => ?_
  ·replace G := ift hb122 G
   refine wp_skip ?_
   refine hK119 _ _ ?_
   refine wp_seq_k fun K123 hK123 => ?_
   refine wp_block_k fun Kx124 hKx124 => ?_
   have hb2 : ∀ (l125 : (List S63)), law18_fine_b2 x118 l125 = some o110 → ∀ (A126 : Option Addr) (n127 : Nat) (c128 : Nat) (U : Act) (w : World), FR 49 [] U [(0, .slice A0 n0 c0), (3, .slice A126 n127 c128), (4, .int .i64 x118)] → SH r (own k63 63 A126 n127 c128 l125 :: L) w → Kx124 U w := by
    intro l125 G A126 n127 c128 U w J X
    unfold law18_fine_b2 at G
    refine hKx124 _ _ ?_
    refine hK123 _ _ ?_
    refine wp_reg ?_
    refine x_m J rfl fun U J => ?_
    obtain ⟨x129, h130, G⟩ := ltt_ G
    refine x_v (v := .int .i64 x129) J (rv_i h130 (r_add rfl (J.ev rfl) (J.ev rfl))) rfl fun U J => ?_
    refine x_m J rfl fun U J => ?_
    refine wpList_nil ?_
    cases G
    exact ⟨_, N110_ _ rfl, A126, n127, c128, J.sub _ rfl, X⟩
   refine wp_seq_k fun K131 hK131 => ?_
   have hj2 : ∀ (b132 : Bool), law18_fine_j2 a0 l117 x118 b132 = some o110 → ∀ (U : Act) (w : World), FR 49 [] U [(0, .slice A0 n0 c0), (3, .slice A114 n115 c116), (4, .int .i64 x118), (40, .bool b132)] → SH r (own k63 63 A114 n115 c116 l117 :: L) w → K131 U w := by
    intro b132 G U w J X
    unfold law18_fine_j2 at G
    refine hK131 _ _ ?_
    refine c_if J rfl (fun hb133 => ?_) fun hb133 => ?_
    ·replace G := ift hb133 G
     refine wp_reg ?_
     refine x_m J rfl fun U J => ?_
     refine x_m J rfl fun U J => ?_
     refine x_m J rfl fun U J => ?_
     obtain ⟨x134, h135, G⟩ := bnd G
     refine x_ia' uu31 sz63 (X.rdl 1 ha0 rfl) h135 J (fun U J => ?_) rfl
     obtain ⟨cs, hV, hc136⟩ := el (X.rdl 1 ha0 rfl) h135
     obtain rfl := hV
     refine x_lda' (cs := [.bool x134.f0, .int .u64 x134.f1, str x134.f2.f0, .int .i64 x134.f2.f1.f0, .int .i64 x134.f2.f1.f1, .int .u64 x134.f2.f2.f0, .float .f64 x134.f2.f2.f1, .bool x134.f2.f2.f2, .float .f64 x134.f2.f2.f3, .float .f64 x134.f2.f2.f4]) uu63 sz63 (fun j u h => by rw [ea_add]; exact hc136 _ _ h) J (fun U J => ?_) rfl
     refine x_bsl' (d := k63) (e := 63) (ps := #[(0, .agg #[.bool x134.f0, .int .u64 x134.f1, str x134.f2.f0, .int .i64 x134.f2.f1.f0, .int .i64 x134.f2.f1.f1, .int .u64 x134.f2.f2.f0, .float .f64 x134.f2.f2.f1, .bool x134.f2.f2.f2, .float .f64 x134.f2.f2.f3, .float .f64 x134.f2.f2.f4])]) (cells := [.bool x134.f0, .int .u64 x134.f1, str x134.f2.f0, .int .i64 x134.f2.f1.f0, .int .i64 x134.f2.f1.f1, .int .u64 x134.f2.f2.f0, .float .f64 x134.f2.f2.f1, .bool x134.f2.f2.f2, .float .f64 x134.f2.f2.f3, .float .f64 x134.f2.f2.f4]) (xs := [x134]) (fun w => by kernel_rfl) rfl ⟨[.bool x134.f0, .int .u64 x134.f1, str x134.f2.f0, .int .i64 x134.f2.f1.f0, .int .i64 x134.f2.f1.f1, .int .u64 x134.f2.f2.f0, .float .f64 x134.f2.f2.f1, .bool x134.f2.f2.f2, .float .f64 x134.f2.f2.f3, .float .f64 x134.f2.f2.f4], _, rfl, rfl, rfl⟩ J X (fun g137 U w X J => ?_) rfl
     obtain ⟨h138, G⟩ := chk_some G
     have hr := X.rd 0 rfl
     refine x_app' 1 inf63 uu31 J X hr.1 hr.2.1 h138 rfl (fun A139 n140 c141 U w X J => ?_) rfl
     refine x_m J rfl fun U J => ?_
     refine wpList_nil ?_
     replace X := X.drop 1
     exact hb2 (l117 ++ [x134]) G A139 n140 c141 U w (J.sub _ rfl) X
    replace G := iff' hb133 G
    refine wp_skip ?_
    exact hb2 l117 G A114 n115 c116 U w (J.sub _ rfl) X
   refine wp_reg ?_
   refine x_m J rfl fun U J => ?_
   refine x_m J rfl fun U J => ?_
   obtain ⟨x142, h143, G⟩ := bnd G
   refine x_ia' uu31 sz63 (X.rdl 1 ha0 rfl) h143 J (fun U J => ?_) rfl
   refine x_fae (m := x118.toNat * 10) fa63_1 J (fun U J => ?_) rfl rfl rfl rfl rfl
   obtain ⟨cs, hV, hc144⟩ := el (X.rdl 1 ha0 rfl) h143
   obtain rfl := hV
   refine x_ld' uu30 (hc144 1 _ rfl) J (fun U J => ?_) rfl
   refine x_v J (r_leI rfl (J.ev rfl) (J.ev rfl)) rfl fun U J => ?_
   refine x_m J rfl fun U J => ?_
   refine bcase (b := decide (x142.f1 ≤ 1099511627776)) (fun hb145 => ?_) fun hb145 => ?_
   ·replace G := ift hb145 G
    refine x_on' hb145 J ?_ rfl
    refine x_m J rfl fun U J => ?_
    refine x_on' hb145 J ?_ rfl
    refine x_m J rfl fun U J => ?_
    refine x_on' hb145 J ?_ rfl
    refine x_ia' uu31 sz63 (X.rdl 1 ha0 rfl) h143 J (fun U J => ?_) rfl
    refine x_on' hb145 J ?_ rfl
    refine x_fae (m := x118.toNat * 10) fa63_2 J (fun U J => ?_) rfl rfl rfl rfl rfl
    refine x_on' hb145 J ?_ rfl
    refine x_fae (m := x118.toNat * 10 + 2) fa61_0 J (fun U J => ?_) rfl rfl rfl rfl rfl
    refine x_on' hb145 J ?_ rfl
    obtain ⟨cs, hV, hc146⟩ := el (X.rdl 1 ha0 rfl) h143
    obtain rfl := hV
    refine x_ld' uu9 (hc146 2 _ rfl) J (fun U J => ?_) rfl
    refine x_on' hb145 J ?_ rfl
    refine x_v J (r_lenS uu9 rfl (J.ev rfl)) rfl fun U J => ?_
    refine x_on' hb145 J ?_ rfl
    refine x_v J (r_leI rfl (J.ev rfl) (J.ev rfl)) rfl fun U J => ?_
    refine x_pickt' hb145 J (fun U J => ?_) rfl
    refine x_m J rfl fun U J => ?_
    refine bcase (b := decide ((x142.f2.f0.length : Int) ≤ 32)) (fun hb147 => ?_) fun hb147 => ?_
    ·replace G := ift hb147 G
     refine x_on' hb147 J ?_ rfl
     refine x_m J rfl fun U J => ?_
     refine x_on' hb147 J ?_ rfl
     refine x_m J rfl fun U J => ?_
     refine x_on' hb147 J ?_ rfl
     refine x_ia' uu31 sz63 (X.rdl 1 ha0 rfl) h143 J (fun U J => ?_) rfl
     refine x_on' hb147 J ?_ rfl
     refine x_fae (m := x118.toNat * 10) fa63_2 J (fun U J => ?_) rfl rfl rfl rfl rfl
     refine x_on' hb147 J ?_ rfl
     refine x_fae (m := x118.toNat * 10 + 2) fa61_2 J (fun U J => ?_) rfl rfl rfl rfl rfl
     refine x_on' hb147 J ?_ rfl
     refine x_fae (m := x118.toNat * 10 + 5) fa59_0 J (fun U J => ?_) rfl rfl rfl rfl rfl
     refine x_on' hb147 J ?_ rfl
     obtain ⟨cs, hV, hc148⟩ := el (X.rdl 1 ha0 rfl) h143
     obtain rfl := hV
     refine x_ld' uu30 (hc148 5 _ rfl) J (fun U J => ?_) rfl
     refine x_on' hb147 J ?_ rfl
     refine x_v J (r_leI rfl (J.ev rfl) (J.ev rfl)) rfl fun U J => ?_
     refine x_pickt' hb147 J (fun U J => ?_) rfl
     refine wpList_nil ?_
     exact hj2 (decide (x142.f2.f2.f0 ≤ 1099511627776)) G U w (J.sub _ rfl) X
    replace G := iff' hb147 G
    refine xO 8 hb147 J rfl fun U J => ?_
    refine x_pickf' hb147 J (fun U J => ?_) rfl
    refine wpList_nil ?_
    exact hj2 false G U w (J.sub _ rfl) X
   replace G := iff' hb145 G
   refine xO 8 hb145 J rfl fun U J => ?_
   refine x_pickf' hb145 J (fun U J => ?_) rfl
   refine x_m J rfl fun U J => ?_
   refine xO 8 rfl J rfl fun U J => ?_
   refine x_pickf' rfl J (fun U J => ?_) rfl
   refine wpList_nil ?_
   exact hj2 false G U w (J.sub _ rfl) X
  replace G := iff' hb122 G
  refine wp_exit ?_
  cases G
  exact hx110_0 l117 (T110_ _ rfl) A114 n115 c116 U w (J.sub _ rfl) X
 refine wp_reg ?_
 refine x_m J rfl fun U J => ?_
 refine x_m J rfl fun U J => ?_
 refine x_len' uu31 (X.rdl 1 ha0 rfl).2.1 J (fun U J => ?_) rfl
 refine x_v J (r_ltI rfl (J.ev rfl) (J.ev rfl)) rfl fun U J => ?_
 refine x_m J rfl fun U J => ?_
 refine bcase (b := decide (x118 < (a0.length : Int))) (fun hb149 => ?_) fun hb149 => ?_
 ·replace G := ift hb149 G
  refine x_on' hb149 J ?_ rfl
  refine x_m J rfl fun U J => ?_
  refine x_on' hb149 J ?_ rfl
  refine x_v J (r_ltI rfl (J.ev rfl) (J.ev rfl)) rfl fun U J => ?_
  refine x_pickt' hb149 J (fun U J => ?_) rfl
  refine wpList_nil ?_
  exact hj1 (decide (x118 < 10)) G U w (J.sub _ rfl) X
 replace G := iff' hb149 G
 refine xO 2 hb149 J rfl fun U J => ?_
 refine x_pickf' hb149 J (fun U J => ?_) rfl
 refine wpList_nil ?_
 exact hj1 false G U w (J.sub _ rfl) X
theorem F_law18_has {r : World} {L : List HP} {w : World} (a0 : Int) (a1 : (List Int)) (a2 : (List S63)) (a3 : S33) (A1 : Option Addr) (n1 : Nat) (c1 : Nat) (A2 : Option Addr) (n2 : Nat) (c2 : Nat) (A3_2 : Option Addr) (n3_2 : Nat) (c3_2 : Nat) {y : (Bool)} (G : law18_has a0 a1 a2 a3 = some y) (ha1 : RdL L (kI .u8) A1 n1 c1 a1) (ha2 : RdL L k63 A2 n2 c2 a2) (h3_2 : RdL L k63 A3_2 n3_2 c3_2 a3.f2) (X : SH r (L) w) :
  Ret Tryz.prog 13 #[.int .u64 a0, .slice A1 n1 c1, .slice A2 n2 c2, .agg #[.int .u64 a3.f0, str a3.f1, .slice A3_2 n3_2 c3_2]] w fun v w' => v = .bool y ∧ SH r (L) w' := by
 refine enter Tryz.func13 rfl Tryz.ntmps13 [(0, .int .u64 a0), (1, .slice A1 n1 c1), (2, .slice A2 n2 c2), (3, .agg #[.int .u64 a3.f0, str a3.f1, .slice A3_2 n3_2 c3_2])] rfl (by simp) ?_
 intro U J Qf hQ hQn
 unfold law18_has at G
 refine ws fun K100 hK100 => ?_
 refine x_box' J X (fun g101 U w X J => ?_) rfl
 refine x_m J rfl fun U J => ?_
 refine wn (hK100 _ _ ?_)
 refine ws fun K102 hK102 => ?_
 refine x_m J rfl fun U J => ?_
 refine x_fab' fa33_0 J (fun U J => ?_) rfl
 refine x_ld' uu30 (X.cell 0 rfl 0 _ rfl) J (fun U J => ?_) rfl
 refine x_v J (r_eqI rfl (J.ev rfl) (J.ev rfl)) rfl fun U J => ?_
 refine x_m J rfl fun U J => ?_
 refine bcase (b := a0 == a3.f0) (fun hb103 => ?_) fun hb103 => ?_
 ·replace G := ift hb103 G
  refine x_on' hb103 J ?_ rfl
  refine x_m J rfl fun U J => ?_
  refine x_on' hb103 J ?_ rfl
  refine x_b2s' uu29 uu5 uu9 (X.rdl 1 ha1 rfl) J (fun U J => ?_) rfl
  refine x_on' hb103 J ?_ rfl
  refine x_fab' fa33_1 J (fun U J => ?_) rfl
  refine x_on' hb103 J ?_ rfl
  refine x_ld' uu9 (X.cell 0 rfl 1 _ rfl) J (fun U J => ?_) rfl
  refine x_on' hb103 J ?_ rfl
  refine x_v J (r_eqS rfl (J.ev rfl) (J.ev rfl)) rfl fun U J => ?_
  refine x_pickt' hb103 J (fun U J => ?_) rfl
  refine x_m J rfl fun U J => ?_
  refine bcase (b := (bts a1) == a3.f1) (fun hb104 => ?_) fun hb104 => ?_
  ·replace G := ift hb104 G
   refine x_on' hb104 J ?_ rfl
   refine x_m J rfl fun U J => ?_
   refine x_on' hb104 J ?_ rfl
   refine x_fab' fa33_2 J (fun U J => ?_) rfl
   refine x_on' hb104 J ?_ rfl
   refine x_ld' uu31 (X.cell 0 rfl 2 _ rfl) J (fun U J => ?_) rfl
   refine x_on' hb104 J ?_ rfl
   obtain ⟨y105, h106, G⟩ := bnd G
   refine x_call' en31 J (F_r17_Same (L := blk g101 33 [.int .u64 a3.f0, str a3.f1, .slice A3_2 n3_2 c3_2] :: L) a2 a3.f2 A2 n2 c2 A3_2 n3_2 c3_2 h106 (RdL.sfx 1 rfl ha2) (RdL.sfx 1 rfl h3_2) X) (fun v U w hR J => ?_) rfl
   obtain ⟨rfl, X⟩ := hR
   refine x_pickt' hb104 J (fun U J => ?_) rfl
   refine x_m J rfl fun U J => ?_
   refine wn (hK102 _ _ ?_)
   refine wp_ret ?_
   replace X := X.drop 0
   cases G
   refine hQ _ _ ?_
   refine lv Tryz.results13 J rfl ?_
   exact ⟨rfl, X⟩
  replace G := iff' hb104 G
  refine xO 4 hb104 J rfl fun U J => ?_
  refine x_pickf' hb104 J (fun U J => ?_) rfl
  refine x_m J rfl fun U J => ?_
  refine wn (hK102 _ _ ?_)
  refine wp_ret ?_
  replace X := X.drop 0
  cases G
  refine hQ _ _ ?_
  refine lv Tryz.results13 J rfl ?_
  exact ⟨rfl, X⟩
 replace G := iff' hb103 G
 refine xO 5 hb103 J rfl fun U J => ?_
 refine x_pickf' hb103 J (fun U J => ?_) rfl
 refine x_m J rfl fun U J => ?_
 refine xO 4 rfl J rfl fun U J => ?_
 refine x_pickf' rfl J (fun U J => ?_) rfl
 refine x_m J rfl fun U J => ?_
 refine wn (hK102 _ _ ?_)
 refine wp_ret ?_
 replace X := X.drop 0
 cases G
 refine hQ _ _ ?_
 refine lv Tryz.results13 J rfl ?_
 exact ⟨rfl, X⟩
theorem F_law18_awake {r : World} {L : List HP} {w : World} {Z : Nat → Prop} {wz : World} {y : (Bool)} (G : law18_awake = some y) (hG0 : Imm Z wz (kI .u32) (some ⟨0, 0, none⟩) 16 16 gl_page_table) (hG1 : Gc Z wz 1 isI64) (hG2 : Gc Z wz 2 isEr) (hG3 : Gc Z wz 3 isEr) (X : SH r (zone Z wz :: L) w) :
  Ret Tryz.prog 7 #[] w fun v w' => ∃ (Z' : Nat → Prop) (wz' : World), v = .bool y ∧ Sub Z wz Z' wz' ∧ SH r (zone Z' wz' :: L) w' := by
 refine enter Tryz.func7 rfl Tryz.ntmps7 [] rfl (by simp) ?_
 intro U J Qf hQ hQn
 unfold law18_awake at G
 refine ws fun K100 hK100 => ?_
 refine x_m J rfl fun U J => ?_
 refine wn (hK100 _ _ ?_)
 refine ws fun K101 hK101 => ?_
 obtain ⟨y102, h103, G⟩ := bnd G
 refine x_call' en8 J (F_files_New (L := zone Z wz :: L) 65536 h103 X) (fun v U w hR J => ?_) rfl
 obtain ⟨p104, rfl, X⟩ := hR
 refine x_m J rfl fun U J => ?_
 refine x_v J (r_extract rfl (J.ev rfl) rfl) rfl fun U J => ?_
 refine x_v J (r_extract rfl (J.ev rfl) rfl) rfl fun U J => ?_
 refine x_m J rfl fun U J => ?_
 refine x_m J rfl fun U J => ?_
 refine wn (hK101 _ _ ?_)
 refine ws fun K105 hK105 => ?_
 refine x_v (v := .agg #[str [120], .int .i64 0, .int .i64 0, .int .u64 0, .float .f64 0, .bool false, .float .f64 0, .float .f64 0]) J (r_build (ps := #[(0, str [120])]) rfl (mapev2 J rfl) (fun w => by kernel_rfl)) rfl fun U J => ?_
 refine x_v (v := .agg #[.bool true, .int .u64 0, str [120], .int .i64 0, .int .i64 0, .int .u64 0, .float .f64 0, .bool false, .float .f64 0, .float .f64 0]) J (r_build (ps := #[(0, .bool true), (2, .agg #[str [120], .int .i64 0, .int .i64 0, .int .u64 0, .float .f64 0, .bool false, .float .f64 0, .float .f64 0])]) rfl (mapev2 J rfl) (fun w => by kernel_rfl)) rfl fun U J => ?_
 refine x_bsl' (d := k63) (e := 63) (ps := #[(0, .agg #[.bool true, .int .u64 0, str [120], .int .i64 0, .int .i64 0, .int .u64 0, .float .f64 0, .bool false, .float .f64 0, .float .f64 0])]) (cells := [.bool true, .int .u64 0, str [120], .int .i64 0, .int .i64 0, .int .u64 0, .float .f64 0, .bool false, .float .f64 0, .float .f64 0]) (xs := [(⟨true, 0, (⟨[120], (⟨0, 0⟩ : S56), (⟨0, 0, false, 0, 0⟩ : S59)⟩ : S61)⟩ : S63)]) (fun w => by kernel_rfl) rfl ⟨[.bool true, .int .u64 0, str [120], .int .i64 0, .int .i64 0, .int .u64 0, .float .f64 0, .bool false, .float .f64 0, .float .f64 0], _, rfl, rfl, rfl⟩ J X (fun g106 U w X J => ?_) rfl
 refine x_m J rfl fun U J => ?_
 refine wn (hK105 _ _ ?_)
 refine ws fun K107 hK107 => ?_
 refine x_v (v := .agg #[str [121], .int .i64 0, .int .i64 0, .int .u64 0, .float .f64 0, .bool false, .float .f64 0, .float .f64 0]) J (r_build (ps := #[(0, str [121])]) rfl (mapev2 J rfl) (fun w => by kernel_rfl)) rfl fun U J => ?_
 refine x_v (v := .agg #[.bool true, .int .u64 0, str [121], .int .i64 0, .int .i64 0, .int .u64 0, .float .f64 0, .bool false, .float .f64 0, .float .f64 0]) J (r_build (ps := #[(0, .bool true), (2, .agg #[str [121], .int .i64 0, .int .i64 0, .int .u64 0, .float .f64 0, .bool false, .float .f64 0, .float .f64 0])]) rfl (mapev2 J rfl) (fun w => by kernel_rfl)) rfl fun U J => ?_
 refine x_bsl' (d := k63) (e := 63) (ps := #[(0, .agg #[.bool true, .int .u64 0, str [121], .int .i64 0, .int .i64 0, .int .u64 0, .float .f64 0, .bool false, .float .f64 0, .float .f64 0])]) (cells := [.bool true, .int .u64 0, str [121], .int .i64 0, .int .i64 0, .int .u64 0, .float .f64 0, .bool false, .float .f64 0, .float .f64 0]) (xs := [(⟨true, 0, (⟨[121], (⟨0, 0⟩ : S56), (⟨0, 0, false, 0, 0⟩ : S59)⟩ : S61)⟩ : S63)]) (fun w => by kernel_rfl) rfl ⟨[.bool true, .int .u64 0, str [121], .int .i64 0, .int .i64 0, .int .u64 0, .float .f64 0, .bool false, .float .f64 0, .float .f64 0], _, rfl, rfl, rfl⟩ J X (fun g108 U w X J => ?_) rfl
 refine x_m J rfl fun U J => ?_
 refine wn (hK107 _ _ ?_)
 refine wp_seq_k fun K109 hK109 => ?_
 refine wp_seq_k fun K110 hK110 => ?_
 have hj1 : ∀ (o111 : (Option S66)) (b112 : Bool), law18_awake_j1 o111 b112 = some y → ∀ (Z113 : Nat → Prop) (wz114 : World) (h115 : Sub Z wz Z113 wz114) (U : Act) (w : World), FR 64 [] U [(1, .pointer p104), (32, .bool b112)] → SH r (optP (obj66) p104 o111 :: zone Z113 wz114 :: L) w → K110 U w := by
  intro o111 b112 G Z113 wz114 h115 U w J X
  unfold law18_awake_j1 at G
  refine hK110 _ _ ?_
  refine c_if J rfl (fun hb116 => ?_) fun hb116 => ?_
  ·replace G := ift hb116 G
   refine ws fun K117 hK117 => ?_
   refine x_m J rfl fun U J => ?_
   refine wn (hK117 _ _ ?_)
   refine wp_ret ?_
   replace X := X.drop 0
   cases G
   refine hQ _ _ ?_
   refine lv Tryz.results7 J rfl ?_
   exact ⟨Z113, wz114, rfl, h115, X⟩
  replace G := iff' hb116 G
  refine wp_skip ?_
  refine hK109 _ _ ?_
  refine ws fun K118 hK118 => ?_
  refine x_m J rfl fun U J => ?_
  replace X := X.pk 1 |>.pk 1
  obtain ⟨y119, h120, G⟩ := bnd G
  refine x_call' en12 J (F_commit_Recover (L := L) o111 p104 h120 (Imm.sub hG0 h115) (Gc.sub hG1 h115) (Gc.sub hG2 h115) (Gc.sub hG3 h115) X) (fun v U w hR J => ?_) rfl
  obtain ⟨Z121, wz122, B123, m124, d125, B126, m127, d128, rfl, h129, X⟩ := hR
  refine x_m J rfl fun U J => ?_
  refine x_v J (r_extract rfl (J.ev rfl) rfl) rfl fun U J => ?_
  refine x_v J (r_extract rfl (J.ev rfl) rfl) rfl fun U J => ?_
  refine x_v J (r_extract rfl (J.ev rfl) rfl) rfl fun U J => ?_
  refine x_v J (r_extract rfl (J.ev rfl) rfl) rfl fun U J => ?_
  refine x_m J rfl fun U J => ?_
  refine x_m J rfl fun U J => ?_
  refine x_m J rfl fun U J => ?_
  refine x_m J rfl fun U J => ?_
  refine wn (hK118 _ _ ?_)
  refine ws fun K130 hK130 => ?_
  refine x_m J rfl fun U J => ?_
  refine x_v J (r_eqI rfl (J.ev rfl) (J.ev rfl)) rfl fun U J => ?_
  refine x_m J rfl fun U J => ?_
  refine bcase (b := y119.2.2.2.1 == 0) (fun hb131 => ?_) fun hb131 => ?_
  ·replace G := ift hb131 G
   refine x_on' hb131 J ?_ rfl
   refine x_m J rfl fun U J => ?_
   refine x_on' hb131 J ?_ rfl
   refine x_v J (r_eqI rfl (J.ev rfl) (J.ev rfl)) rfl fun U J => ?_
   refine x_pickt' hb131 J (fun U J => ?_) rfl
   refine x_m J rfl fun U J => ?_
   refine bcase (b := y119.1 == 2) (fun hb132 => ?_) fun hb132 => ?_
   ·replace G := ift hb132 G
    refine x_on' hb132 J ?_ rfl
    refine x_m J rfl fun U J => ?_
    refine x_on' hb132 J ?_ rfl
    refine x_b2s' uu29 uu5 uu9 (X.rd 0 rfl) J (fun U J => ?_) rfl
    refine x_on' hb132 J ?_ rfl
    refine x_v J (r_eqS rfl (J.ev rfl) (J.ev rfl)) rfl fun U J => ?_
    refine x_pickt' hb132 J (fun U J => ?_) rfl
    refine x_m J rfl fun U J => ?_
    refine bcase (b := (bts y119.2.1) == [98]) (fun hb133 => ?_) fun hb133 => ?_
    ·replace G := ift hb133 G
     refine x_on' hb133 J ?_ rfl
     refine x_m J rfl fun U J => ?_
     refine x_on' hb133 J ?_ rfl
     refine x_len' uu31 (X.rd 1 rfl).2.1 J (fun U J => ?_) rfl
     refine x_on' hb133 J ?_ rfl
     refine x_v J (r_eqI rfl (J.ev rfl) (J.ev rfl)) rfl fun U J => ?_
     refine x_pickt' hb133 J (fun U J => ?_) rfl
     refine x_m J rfl fun U J => ?_
     refine bcase (b := (y119.2.2.1.length : Int) == 2) (fun hb134 => ?_) fun hb134 => ?_
     ·replace G := ift hb134 G
      refine x_on' hb134 J ?_ rfl
      refine x_m J rfl fun U J => ?_
      refine x_on' hb134 J ?_ rfl
      obtain ⟨x135, h136, G⟩ := bnd G
      refine x_ia' uu31 sz63 (X.rd 1 rfl) h136 J (fun U J => ?_) rfl
      refine x_on' hb134 J ?_ rfl
      refine x_fae (m := (1 : Int).toNat * 10) fa63_2 J (fun U J => ?_) rfl rfl rfl rfl rfl
      refine x_on' hb134 J ?_ rfl
      refine x_fae (m := (1 : Int).toNat * 10 + 2) fa61_0 J (fun U J => ?_) rfl rfl rfl rfl rfl
      refine x_on' hb134 J ?_ rfl
      obtain ⟨cs, hV, hc137⟩ := el (X.rd 1 rfl) h136
      obtain rfl := hV
      refine x_ld' uu9 (hc137 2 _ rfl) J (fun U J => ?_) rfl
      refine x_on' hb134 J ?_ rfl
      refine x_v J (r_eqS rfl (J.ev rfl) (J.ev rfl)) rfl fun U J => ?_
      refine x_pickt' hb134 J (fun U J => ?_) rfl
      refine x_m J rfl fun U J => ?_
      refine wn (hK130 _ _ ?_)
      refine wp_ret ?_
      replace X := X.drop 0 |>.drop 0 |>.drop 0
      cases G
      refine hQ _ _ ?_
      refine lv Tryz.results7 J rfl ?_
      exact ⟨Z121, wz122, rfl, (Sub.trans h115 h129), X⟩
     replace G := iff' hb134 G
     refine xO 6 hb134 J rfl fun U J => ?_
     refine x_pickf' hb134 J (fun U J => ?_) rfl
     refine x_m J rfl fun U J => ?_
     refine wn (hK130 _ _ ?_)
     refine wp_ret ?_
     replace X := X.drop 0 |>.drop 0 |>.drop 0
     cases G
     refine hQ _ _ ?_
     refine lv Tryz.results7 J rfl ?_
     exact ⟨Z121, wz122, rfl, (Sub.trans h115 h129), X⟩
    replace G := iff' hb133 G
    refine xO 3 hb133 J rfl fun U J => ?_
    refine x_pickf' hb133 J (fun U J => ?_) rfl
    refine x_m J rfl fun U J => ?_
    refine xO 6 rfl J rfl fun U J => ?_
    refine x_pickf' rfl J (fun U J => ?_) rfl
    refine x_m J rfl fun U J => ?_
    refine wn (hK130 _ _ ?_)
    refine wp_ret ?_
    replace X := X.drop 0 |>.drop 0 |>.drop 0
    cases G
    refine hQ _ _ ?_
    refine lv Tryz.results7 J rfl ?_
    exact ⟨Z121, wz122, rfl, (Sub.trans h115 h129), X⟩
   replace G := iff' hb132 G
   refine xO 3 hb132 J rfl fun U J => ?_
   refine x_pickf' hb132 J (fun U J => ?_) rfl
   refine x_m J rfl fun U J => ?_
   refine xO 3 rfl J rfl fun U J => ?_
   refine x_pickf' rfl J (fun U J => ?_) rfl
   refine x_m J rfl fun U J => ?_
   refine xO 6 rfl J rfl fun U J => ?_
   refine x_pickf' rfl J (fun U J => ?_) rfl
   refine x_m J rfl fun U J => ?_
   refine wn (hK130 _ _ ?_)
   refine wp_ret ?_
   replace X := X.drop 0 |>.drop 0 |>.drop 0
   cases G
   refine hQ _ _ ?_
   refine lv Tryz.results7 J rfl ?_
   exact ⟨Z121, wz122, rfl, (Sub.trans h115 h129), X⟩
  replace G := iff' hb131 G
  refine xO 2 hb131 J rfl fun U J => ?_
  refine x_pickf' hb131 J (fun U J => ?_) rfl
  refine x_m J rfl fun U J => ?_
  refine xO 3 rfl J rfl fun U J => ?_
  refine x_pickf' rfl J (fun U J => ?_) rfl
  refine x_m J rfl fun U J => ?_
  refine xO 3 rfl J rfl fun U J => ?_
  refine x_pickf' rfl J (fun U J => ?_) rfl
  refine x_m J rfl fun U J => ?_
  refine xO 6 rfl J rfl fun U J => ?_
  refine x_pickf' rfl J (fun U J => ?_) rfl
  refine x_m J rfl fun U J => ?_
  refine wn (hK130 _ _ ?_)
  refine wp_ret ?_
  replace X := X.drop 0 |>.drop 0 |>.drop 0
  cases G
  refine hQ _ _ ?_
  refine lv Tryz.results7 J rfl ?_
  exact ⟨Z121, wz122, rfl, (Sub.trans h115 h129), X⟩
 refine wp_reg ?_
 refine x_m J rfl fun U J => ?_
 refine x_bsl' (d := (kI .u8)) (e := 5) (ps := #[(0, .int .u8 97)]) (cells := [.int .u8 97]) (xs := [97]) (fun w => by kernel_rfl) rfl ⟨[.int .u8 97], _, rfl, rfl, rfl⟩ J X (fun g138 U w X J => ?_) rfl
 replace X := own_ownm (by decide) X
 refine x_cvM' 0 uu29 uu5 J X rfl (fun  U w X J => ?_) rfl
 refine x_m J rfl fun U J => ?_
 replace X := X.pk 4 |>.pk 1
 obtain ⟨Z139, wz140, X, h141, sb184⟩ := SH.freezem (m := 1) (c := 1) (A := (some ⟨g138, 0, none⟩)) X
 replace X := X.pk 0 |>.pk 2
 obtain ⟨Z142, wz143, X, h144, sb188⟩ := SH.freeze (n := 1) (c := 1) (A := (some ⟨g106, 0, none⟩)) X
 have h145 := Imm.sub h141 sb188
 replace X := X.pk 2
 obtain ⟨y146, h147, G⟩ := bnd G
 refine x_call' en11 J (F_commit_Put (L := own k63 63 (some ⟨g108, 0, none⟩) 1 1 [(⟨true, 0, (⟨[121], (⟨0, 0⟩ : S56), (⟨0, 0, false, 0, 0⟩ : S59)⟩ : S61)⟩ : S63)] :: L) y102.1 1 [97] [(⟨true, 0, (⟨[120], (⟨0, 0⟩ : S56), (⟨0, 0, false, 0, 0⟩ : S59)⟩ : S61)⟩ : S63)] p104 (some ⟨g138, 0, none⟩) 1 1 (some ⟨g106, 0, none⟩) 1 1 h147 h145 h144 (Imm.sub hG0 (Sub.trans sb184 sb188)) (Gc.sub hG1 (Sub.trans sb184 sb188)) (Gc.sub hG2 (Sub.trans sb184 sb188)) (Gc.sub hG3 (Sub.trans sb184 sb188)) X) (fun v U w hR J => ?_) rfl
 obtain ⟨Z148, wz149, rfl, h150, X⟩ := hR
 have h151 := Imm.sub h144 h150
 have h152 := Imm.sub h145 h150
 refine x_v J (r_neI rfl (J.ev rfl) (J.ev rfl)) rfl fun U J => ?_
 refine x_m J rfl fun U J => ?_
 refine bcase (b := y146.1 != 0) (fun hb153 => ?_) fun hb153 => ?_
 ·replace G := ift hb153 G
  refine xO 6 hb153 J rfl fun U J => ?_
  refine x_pickt' hb153 J (fun U J => ?_) rfl
  refine wpList_nil ?_
  replace X := X.drop 2
  exact hj1 y146.2 true G Z148 wz149 (Sub.trans (Sub.trans sb184 sb188) h150) U w (J.sub _ rfl) X
 replace G := iff' hb153 G
 refine x_on' hb153 J ?_ rfl
 refine x_m J rfl fun U J => ?_
 refine x_on' hb153 J ?_ rfl
 refine x_bsl' (d := (kI .u8)) (e := 5) (ps := #[(0, .int .u8 98)]) (cells := [.int .u8 98]) (xs := [98]) (fun w => by kernel_rfl) rfl ⟨[.int .u8 98], _, rfl, rfl, rfl⟩ J X (fun g154 U w X J => ?_) rfl
 refine x_on' hb153 J ?_ rfl
 replace X := own_ownm (by decide) X
 refine x_cvM' 0 uu29 uu5 J X rfl (fun  U w X J => ?_) rfl
 refine x_on' hb153 J ?_ rfl
 refine x_m J rfl fun U J => ?_
 refine x_on' hb153 J ?_ rfl
 replace X := X.pk 2 |>.pk 1
 obtain ⟨Z155, wz156, X, h157, sb202⟩ := SH.freezem (m := 1) (c := 1) (A := (some ⟨g154, 0, none⟩)) X
 have h158 := Imm.sub h151 sb202
 have h159 := Imm.sub h152 sb202
 replace X := X.pk 0 |>.pk 2
 obtain ⟨Z160, wz161, X, h162, sb208⟩ := SH.freeze (n := 1) (c := 1) (A := (some ⟨g108, 0, none⟩)) X
 have h163 := Imm.sub h158 sb208
 have h164 := Imm.sub h159 sb208
 have h165 := Imm.sub h157 sb208
 replace X := X.pk 1
 obtain ⟨y166, h167, G⟩ := bnd G
 refine x_call' en11 J (F_commit_Put (L := L) y146.2 2 [98] [(⟨true, 0, (⟨[121], (⟨0, 0⟩ : S56), (⟨0, 0, false, 0, 0⟩ : S59)⟩ : S61)⟩ : S63)] p104 (some ⟨g154, 0, none⟩) 1 1 (some ⟨g108, 0, none⟩) 1 1 h167 h165 h162 (Imm.sub hG0 (Sub.trans (Sub.trans (Sub.trans (Sub.trans sb184 sb188) h150) sb202) sb208)) (Gc.sub hG1 (Sub.trans (Sub.trans (Sub.trans (Sub.trans sb184 sb188) h150) sb202) sb208)) (Gc.sub hG2 (Sub.trans (Sub.trans (Sub.trans (Sub.trans sb184 sb188) h150) sb202) sb208)) (Gc.sub hG3 (Sub.trans (Sub.trans (Sub.trans (Sub.trans sb184 sb188) h150) sb202) sb208)) X) (fun v U w hR J => ?_) rfl
 obtain ⟨Z168, wz169, rfl, h170, X⟩ := hR
 have h171 := Imm.sub h163 h170
 have h172 := Imm.sub h162 h170
 have h173 := Imm.sub h164 h170
 have h174 := Imm.sub h165 h170
 refine x_on' hb153 J ?_ rfl
 refine x_v J (r_neI rfl (J.ev rfl) (J.ev rfl)) rfl fun U J => ?_
 refine x_pickf' hb153 J (fun U J => ?_) rfl
 refine wpList_nil ?_
 exact hj1 y166.2 (y166.1 != 0) G Z168 wz169 (Sub.trans (Sub.trans (Sub.trans (Sub.trans (Sub.trans sb184 sb188) h150) sb202) sb208) h170) U w (J.sub _ rfl) X
noncomputable section
set_option linter.unusedSimpArgs false
def law18_CommitFalls_b1 : Option (Bool) :=
  some true
def law18_CommitFalls_x1_0 : Option (Bool) :=
  law18_CommitFalls_b1
def law18_CommitFalls_b2 (x64397 : Int) (o75685 : (Option S66)) (x75686 : Int) (s75687 : (List UInt8)) (l75688 : (List S63)) : Option (((Option S66) × Int × (List UInt8) × (List S63) × Int) ⊕ ((Unit) ⊕ (Bool))) :=
  ltt (IntKind.i64.wrap (x64397 + 1)) fun x75693 => (some (.inl (o75685, x75686, s75687, l75688, x75693)))
def law18_CommitFalls_j5 (x64397 : Int) (x75986 : Int) (s75987 : (List UInt8)) (l75988 : (List S63)) (x76004 : Int) (s76005 : (List UInt8)) (l76006 : (List S63)) (x76868 : Int) (l76869 : (List Int)) (l76873 : (List S63)) (y76878 : (Int × (Option S66))) (b76888 : Bool) : Option (((Option S66) × Int × (List UInt8) × (List S63) × Int) ⊕ ((Unit) ⊕ (Bool))) :=
  if b76888 = true then (some (.inr (.inr false))) else ((law18_has x76868 l76869 l76873 (⟨x76004, s76005, l76006⟩ : S33)).bind fun y76893 => (if (!y76893) = true then (law18_CommitFalls_b2 x64397 y76878.2 x75986 s75987 l75988) else (law18_CommitFalls_b2 x64397 y76878.2 x76004 s76005 l76006)))
def law18_CommitFalls_b4 (x64397 : Int) (x75986 : Int) (s75987 : (List UInt8)) (l75988 : (List S63)) (x76004 : Int) (s76005 : (List UInt8)) (l76006 : (List S63)) (o76864 : (Option S66)) (x76867 : Int) (x76868 : Int) (l76869 : (List Int)) (l76873 : (List S63)) : Option (((Option S66) × Int × (List UInt8) × (List S63) × Int) ⊕ ((Unit) ⊕ (Bool))) :=
  (files_Store_Arm o76864 0).bind fun y76878 => (if (x76867 != 0) = true then (law18_CommitFalls_j5 x64397 x75986 s75987 l75988 x76004 s76005 l76006 x76868 l76869 l76873 y76878 true) else ((law18_has x76868 l76869 l76873 (⟨x76004, s76005, l76006⟩ : S33)).bind fun y76897 => (if (!y76897) = true then ((law18_has x76868 l76869 l76873 (⟨x75986, s75987, l75988⟩ : S33)).bind fun y76900 => (law18_CommitFalls_j5 x64397 x75986 s75987 l75988 x76004 s76005 l76006 x76868 l76869 l76873 y76878 (!y76900))) else (law18_CommitFalls_j5 x64397 x75986 s75987 l75988 x76004 s76005 l76006 x76868 l76869 l76873 y76878 false))))
def law18_CommitFalls_x2_3 (x64397 : Int) (x75986 : Int) (s75987 : (List UInt8)) (l75988 : (List S63)) (x76004 : Int) (s76005 : (List UInt8)) (l76006 : (List S63)) (o77101 : (Option S66)) (x77104 : Int) (x77105 : Int) (l77106 : (List Int)) (l77110 : (List S63)) : Option (((Option S66) × Int × (List UInt8) × (List S63) × Int) ⊕ ((Unit) ⊕ (Bool))) :=
  law18_CommitFalls_b4 x64397 x75986 s75987 l75988 x76004 s76005 l76006 o77101 x77104 x77105 l77106 l77110
def law18_CommitFalls_j6 (x77016 : Int) (o77135 : (Option S66)) : Option (((Option S66) × Int × Int × (List Int) × (List S63) × Int) ⊕ (((Option S66) × Int × Int × (List Int) × (List S63)) ⊕ (Bool))) :=
  (commit_Recover o77135).bind fun y77137 => (if (y77137.2.2.2.1 == 0) = true then (some (.inr (.inl (y77137.2.2.2.2, y77137.2.2.2.1, y77137.1, y77137.2.1, y77137.2.2.1)))) else (if (y77137.2.2.2.1 != 9) = true then (some (.inr (.inr false))) else (ltt (IntKind.i64.wrap (x77016 + 1)) fun x77160 => (some (.inl (y77137.2.2.2.2, y77137.2.2.2.1, y77137.1, y77137.2.1, y77137.2.2.1, x77160))))))
def law18_CommitFalls_l2 (x75696 : S36) (o77000 : (Option S66)) (x77006 : Int) (x77007 : Int) (l77008 : (List Int)) (l77012 : (List S63)) (x77016 : Int) : Option (((Option S66) × Int × Int × (List Int) × (List S63) × Int) ⊕ (((Option S66) × Int × Int × (List Int) × (List S63)) ⊕ (Bool))) :=
  if (decide (x77016 < 6)) = true then ((files_Store_Restart o77000 x75696.f4).bind fun y77121 => (if (decide (x77016 < 3)) = true then (chk (0 ≤ x77016) (ltt (ishr .u8 x75696.f3 x77016) fun x77165 => (ltt (IntKind.i64.wrap x77165) fun x77167 => (ltt (x77167.tmod 5) fun x77169 => ((files_Store_Arm y77121.2 x77169).bind fun y77171 => (law18_CommitFalls_j6 x77016 y77171.2)))))) else (law18_CommitFalls_j6 x77016 y77121.2))) else (some (.inr (.inl (o77000, x77006, x77007, l77008, l77012))))
def law18_CommitFalls_j7 (x64397 : Int) (x76004 : Int) (s76005 : (List UInt8)) (l76006 : (List S63)) (y77177 : (Int × (List Int) × (List S63) × Int × (Option S66))) (b77198 : Bool) : Option (((Option S66) × Int × (List UInt8) × (List S63) × Int) ⊕ ((Unit) ⊕ (Bool))) :=
  if b77198 = true then (some (.inr (.inr false))) else (law18_CommitFalls_b2 x64397 y77177.2.2.2.2 x76004 s76005 l76006)
def law18_CommitFalls_j4 (x64397 : Int) (x75696 : S36) (o75981 : (Option S66)) (x75986 : Int) (s75987 : (List UInt8)) (l75988 : (List S63)) (x75993 : Int) (x76004 : Int) (s76005 : (List UInt8)) (l76006 : (List S63)) (b76016 : Bool) : Option (((Option S66) × Int × (List UInt8) × (List S63) × Int) ⊕ ((Unit) ⊕ (Bool))) :=
  if b76016 = true then ((loop (fun s => law18_CommitFalls_l2 x75696 s.1 s.2.1 s.2.2.1 s.2.2.2.1 s.2.2.2.2.1 s.2.2.2.2.2) (o75981, x75993, 0, [], [], 0)).bind fun t => match t with | (.inl t) => law18_CommitFalls_x2_3 x64397 x75986 s75987 l75988 x76004 s76005 l76006 t.1 t.2.1 t.2.2.1 t.2.2.2.1 t.2.2.2.2 | (.inr t) => some (.inr (.inr t))) else ((files_Store_Arm o75981 0).bind fun y77174 => ((commit_Recover y77174.2).bind fun y77177 => (if (y77177.2.2.2.1 != 0) = true then (law18_CommitFalls_j7 x64397 x76004 s76005 l76006 y77177 true) else ((law18_has y77177.1 y77177.2.1 y77177.2.2.1 (⟨x76004, s76005, l76006⟩ : S33)).bind fun y77202 => (law18_CommitFalls_j7 x64397 x76004 s76005 l76006 y77177 (!y77202))))))
def law18_CommitFalls_j3 (x64397 : Int) (x75696 : S36) (o75981 : (Option S66)) (x75986 : Int) (s75987 : (List UInt8)) (l75988 : (List S63)) (x75993 : Int) (x76004 : Int) (s76005 : (List UInt8)) (l76006 : (List S63)) : Option (((Option S66) × Int × (List UInt8) × (List S63) × Int) ⊕ ((Unit) ⊕ (Bool))) :=
  if (x75993 == 9) = true then (law18_CommitFalls_j4 x64397 x75696 o75981 x75986 s75987 l75988 x75993 x76004 s76005 l76006 true) else ((files_Store_On o75981).bind fun y77205 => (law18_CommitFalls_j4 x64397 x75696 o75981 x75986 s75987 l75988 x75993 x76004 s76005 l76006 (!y77205)))
def law18_CommitFalls_j2 (x64390 : Int) (s64391 : (List UInt8)) (l64392 : (List S63)) (x64397 : Int) (x75696 : S36) (o75981 : (Option S66)) (x75986 : Int) (s75987 : (List UInt8)) (l75988 : (List S63)) (x75993 : Int) (b75998 : Bool) : Option (((Option S66) × Int × (List UInt8) × (List S63) × Int) ⊕ ((Unit) ⊕ (Bool))) :=
  if b75998 = true then (some (.inr (.inr false))) else (if (x75993 == 0) = true then (law18_CommitFalls_j3 x64397 x75696 o75981 x75986 s75987 l75988 x75993 x75986 s75987 l75988) else (law18_CommitFalls_j3 x64397 x75696 o75981 x75986 s75987 l75988 x75993 x64390 s64391 l64392))
def law18_CommitFalls_b3 (x64390 : Int) (s64391 : (List UInt8)) (l64392 : (List S63)) (x64397 : Int) (x75696 : S36) (o75981 : (Option S66)) (x75986 : Int) (s75987 : (List UInt8)) (l75988 : (List S63)) (x75993 : Int) : Option (((Option S66) × Int × (List UInt8) × (List S63) × Int) ⊕ ((Unit) ⊕ (Bool))) :=
  if (x75993 != 0) = true then (if (x75993 != 9) = true then (law18_CommitFalls_j2 x64390 s64391 l64392 x64397 x75696 o75981 x75986 s75987 l75988 x75993 (x75993 != 10)) else (law18_CommitFalls_j2 x64390 s64391 l64392 x64397 x75696 o75981 x75986 s75987 l75988 x75993 false)) else (law18_CommitFalls_j2 x64390 s64391 l64392 x64397 x75696 o75981 x75986 s75987 l75988 x75993 false)
def law18_CommitFalls_j1 (a0 : (List S36)) (o64389 : (Option S66)) (x64390 : Int) (s64391 : (List UInt8)) (l64392 : (List S63)) (x64397 : Int) (b70860 : Bool) : Option (((Option S66) × Int × (List UInt8) × (List S63) × Int) ⊕ ((Unit) ⊕ (Bool))) :=
  if b70860 = true then ((at_ a0 x64397).bind fun x75696 => (if (decide (500 < (x75696.f1.length : Int))) = true then (some (.inr (.inr true))) else ((law18_fine x75696.f2).bind fun y75717 => (ltt (x75696.f0.tmod 10) fun x77212 => (if (decide (x77212 < 7)) = true then (ltt (IntKind.u64.wrap (x64390 + 1)) fun x77216 => (chk (([] : List S63).length + l64392.length ≤ 140737488355328 / 88) (chk (l64392.length + y75717.length ≤ 140737488355328 / 88) ((commit_Put o64389 x77216 x75696.f1 y75717).bind fun y77249 => (law18_CommitFalls_b3 x64390 s64391 l64392 x64397 x75696 y77249.2 x77216 (bts x75696.f1) (l64392 ++ y75717) y77249.1))))) else (if (x77212 == 8) = true then (ltt (IntKind.i64.wrap x75696.f3) fun x77264 => (ltt (x77264.tmod 14) fun x77266 => ((files_Store_Arm o64389 x77266).bind fun y77268 => (law18_CommitFalls_b2 x64397 y77268.2 x64390 s64391 l64392)))) else (if (x77212 == 9) = true then (law18_CommitFalls_b3 x64390 s64391 l64392 x64397 x75696 o64389 x64390 s64391 l64392 9) else ((commit_Recover o64389).bind fun y77272 => (law18_CommitFalls_b3 x64390 s64391 l64392 x64397 x75696 y77272.2.2.2.2 x64390 s64391 l64392 y77272.2.2.2.1))))))))) else (some (.inr (.inl ())))
def law18_CommitFalls_l1 (a0 : (List S36)) (o64389 : (Option S66)) (x64390 : Int) (s64391 : (List UInt8)) (l64392 : (List S63)) (x64397 : Int) : Option (((Option S66) × Int × (List UInt8) × (List S63) × Int) ⊕ ((Unit) ⊕ (Bool))) :=
  if (decide (x64397 < (a0.length : Int))) = true then (law18_CommitFalls_j1 a0 o64389 x64390 s64391 l64392 x64397 (decide (x64397 < 30))) else (law18_CommitFalls_j1 a0 o64389 x64390 s64391 l64392 x64397 false)
def law18_CommitFalls (a0 : (List S36)) (a1 : Int) : Option (Bool) :=
  (law18_awake).bind fun y104 => (if (!y104) = true then (some false) else (ltt (IntKind.i64.wrap a1) fun x113 => (ltt (IntKind.i64.wrap (200 + x113)) fun x115 => ((files_New x115).bind fun y117 => ((loop (fun s => law18_CommitFalls_l1 a0 s.1 s.2.1 s.2.2.1 s.2.2.2.1 s.2.2.2.2) (y117.1, 0, [], [], 0)).bind fun t => match t with | (.inl t) => law18_CommitFalls_x1_0 | (.inr t) => some t)))))
end
theorem F_law18_CommitFalls {r : World} {L : List HP} {w : World} {Z : Nat → Prop} {wz : World} (a0 : (List S36)) (a1 : Int) (A0 : Option Addr) (n0 : Nat) (c0 : Nat) {y : (Bool)} (G : law18_CommitFalls a0 a1 = some y) (ha0 : Imm Z wz (kz36 Z wz) A0 n0 c0 a0) (hG0 : Imm Z wz (kI .u32) (some ⟨0, 0, none⟩) 16 16 gl_page_table) (hG1 : Gc Z wz 1 isI64) (hG2 : Gc Z wz 2 isEr) (hG3 : Gc Z wz 3 isEr) (X : SH r (zone Z wz :: L) w) :
  Ret Tryz.prog 6 #[.slice A0 n0 c0, .int .u16 a1] w fun v w' => ∃ (Z' : Nat → Prop) (wz' : World), v = .bool y ∧ Sub Z wz Z' wz' ∧ SH r (zone Z' wz' :: L) w' := by
 refine enter Tryz.func6 rfl Tryz.ntmps6 [(0, .slice A0 n0 c0), (1, .int .u16 a1)] rfl (by simp) ?_
 intro U J Qf hQ hQn
 unfold law18_CommitFalls at G
 refine ws fun K100 hK100 => ?_
 refine x_m J rfl fun U J => ?_
 refine wn (hK100 _ _ ?_)
 refine wp_seq_k fun K101 hK101 => ?_
 refine ws fun K102 hK102 => ?_
 obtain ⟨y103, h104, G⟩ := bnd G
 refine x_call' en7 J (F_law18_awake (L := L) h104 hG0 hG1 hG2 hG3 X) (fun v U w hR J => ?_) rfl
 obtain ⟨Z105, wz106, rfl, h107, X⟩ := hR
 have h108 := Imm.kind (d' := (kz36 Z105 wz106)) (Imm.sub ha0 h107) rfl (kz36_sub h107)
 refine x_v J (r_not rfl (J.ev rfl)) rfl fun U J => ?_
 refine wn (hK102 _ _ ?_)
 refine c_if J rfl (fun hb109 => ?_) fun hb109 => ?_
 ·replace G := ift hb109 G
  refine ws fun K110 hK110 => ?_
  refine x_m J rfl fun U J => ?_
  refine wn (hK110 _ _ ?_)
  refine wp_ret ?_
  cases G
  refine hQ _ _ ?_
  refine lv Tryz.results6 J rfl ?_
  exact ⟨Z105, wz106, rfl, h107, X⟩
 replace G := iff' hb109 G
 refine wp_skip ?_
 refine hK101 _ _ ?_
 refine ws fun K111 hK111 => ?_
 refine x_m J rfl fun U J => ?_
 obtain ⟨x112, h113, G⟩ := ltt_ G
 refine x_v (v := .int .i64 x112) J (rv_i h113 (r_convI uu52 uu3 rfl (J.ev rfl))) rfl fun U J => ?_
 obtain ⟨x114, h115, G⟩ := ltt_ G
 refine x_v (v := .int .i64 x114) J (rv_i h115 (r_add rfl (J.ev rfl) (J.ev rfl))) rfl fun U J => ?_
 obtain ⟨y116, h117, G⟩ := bnd G
 refine x_call' en8 J (F_files_New (L := zone Z105 wz106 :: L) x114 h117 X) (fun v U w hR J => ?_) rfl
 obtain ⟨p118, rfl, X⟩ := hR
 refine x_m J rfl fun U J => ?_
 refine x_v J (r_extract rfl (J.ev rfl) rfl) rfl fun U J => ?_
 refine x_v J (r_extract rfl (J.ev rfl) rfl) rfl fun U J => ?_
 refine x_m J rfl fun U J => ?_
 refine x_m J rfl fun U J => ?_
 refine wn (hK111 _ _ ?_)
 refine ws fun K119 hK119 => ?_
 refine x_alloc' (cs := [.int .u64 0, str [], .slice none 0 0]) zr33 J X (fun g120 U w X J => ?_) rfl
 refine wn (hK119 _ _ ?_)
 refine wp_seq_k fun K121 hK121 => ?_
 refine ws fun K122 hK122 => ?_
 refine x_m J rfl fun U J => ?_
 refine wn (hK122 _ _ ?_)
 refine wp_block_k fun Kx123 hKx123 => ?_
 have hb1 : law18_CommitFalls_b1 = some y → ∀ (Z124 : Nat → Prop) (wz125 : World) (h126 : Sub Z wz Z124 wz125) (U : Act) (w : World), FR 199 [] U [] → SH r (zone Z124 wz125 :: L) w → Kx123 U w := by
  intro G Z124 wz125 h126 U w J X
  unfold law18_CommitFalls_b1 at G
  refine hKx123 _ _ ?_
  refine hK121 _ _ ?_
  refine ws fun K127 hK127 => ?_
  refine x_m J rfl fun U J => ?_
  refine wn (hK127 _ _ ?_)
  refine wp_ret ?_
  cases G
  refine hQ _ _ ?_
  refine lv Tryz.results6 J rfl ?_
  exact ⟨Z124, wz125, rfl, h126, X⟩
 obtain ⟨t128, hl128, G⟩ := bnd G
 have hR128 := G
 have hx128_0 : (.inl ()) = t128 → ∀ (Z129 : Nat → Prop) (wz130 : World) (h128 : Sub Z wz Z129 wz130) (U : Act) (w : World), FR 199 [] U [] → SH r (zone Z129 wz130 :: L) w → Kx123 U w := by
  intro ht Z129 wz130 h128 U w J X
  subst ht
  replace G : law18_CommitFalls_x1_0 = some y := G
  unfold law18_CommitFalls_x1_0 at G
  exact hb1 G Z129 wz130 h128 U w (J.sub _ rfl) X
 refine wp_loop_fn hl128 (fun s U w => ∃ (Z131 : Nat → Prop) (wz132 : World) (A133 : Option Addr) (n134 : Nat) (c135 : Nat), Sub Z wz Z131 wz132 ∧ Imm Z131 wz132 (kz36 Z131 wz132) A0 n0 c0 a0 ∧ Imm Z131 wz132 k63 A133 n134 c135 s.2.2.2.1 ∧ FR 199 [] U [(0, .slice A0 n0 c0), (5, .pointer p118), (7, (pP g120)), (8, .int .i64 s.2.2.2.2)] ∧ SH r (blk g120 33 [.int .u64 s.2.1, str s.2.2.1, .slice A133 n134 c135] :: optP (obj66) p118 s.1 :: zone Z131 wz132 :: L) w) ⟨Z105, wz106, none, 0, 0, h107, h108, Imm.nil, J.sub _ rfl, X⟩ ?_
 intro N128 s128 o128 G N128_ T128_ U w hLab
 obtain ⟨o136, x137, s138, l139, x140⟩ := s128
 replace G : law18_CommitFalls_l1 a0 o136 x137 s138 l139 x140 = some o128 := G
 unfold law18_CommitFalls_l1 at G
 try dsimp only at hLab
 obtain ⟨Z131, wz132, A133, n134, c135, h141, h142, h143, J, X⟩ := hLab
 refine wp_seq_k fun K144 hK144 => ?_
 refine wp_seq_k fun K145 hK145 => ?_
 have hj1 : ∀ (b146 : Bool), law18_CommitFalls_j1 a0 o136 x137 s138 l139 x140 b146 = some o128 → ∀ (U : Act) (w : World), FR 199 [] U [(0, .slice A0 n0 c0), (5, .pointer p118), (7, (pP g120)), (8, .int .i64 x140), (38, .bool b146)] → SH r (blk g120 33 [.int .u64 x137, str s138, .slice A133 n134 c135] :: optP (obj66) p118 o136 :: zone Z131 wz132 :: L) w → K145 U w := by
  intro b146 G U w J X
  unfold law18_CommitFalls_j1 at G
  refine hK145 _ _ ?_
  refine c_if J rfl (fun hb147 => ?_) fun hb147 => ?_
  ·replace G := ift hb147 G
   refine wp_skip ?_
   refine hK144 _ _ ?_
   refine wp_seq_k fun K148 hK148 => ?_
   refine wp_block_k fun Kx149 hKx149 => ?_
   have hb2 : ∀ (o150 : (Option S66)) (x151 : Int) (s152 : (List UInt8)) (l153 : (List S63)), law18_CommitFalls_b2 x140 o150 x151 s152 l153 = some o128 → ∀ (Z154 : Nat → Prop) (wz155 : World) (A156 : Option Addr) (n157 : Nat) (c158 : Nat) (h159 : Sub Z wz Z154 wz155) (h160 : Imm Z154 wz155 (kz36 Z154 wz155) A0 n0 c0 a0) (h161 : Imm Z154 wz155 k63 A156 n157 c158 l153) (U : Act) (w : World), FR 199 [] U [(0, .slice A0 n0 c0), (5, .pointer p118), (7, (pP g120)), (8, .int .i64 x140)] → SH r (blk g120 33 [.int .u64 x151, str s152, .slice A156 n157 c158] :: optP (obj66) p118 o150 :: zone Z154 wz155 :: L) w → Kx149 U w := by
    intro o150 x151 s152 l153 G Z154 wz155 A156 n157 c158 h159 h160 h161 U w J X
    unfold law18_CommitFalls_b2 at G
    refine hKx149 _ _ ?_
    refine hK148 _ _ ?_
    refine wp_reg ?_
    refine x_m J rfl fun U J => ?_
    obtain ⟨x162, h163, G⟩ := ltt_ G
    refine x_v (v := .int .i64 x162) J (rv_i h163 (r_add rfl (J.ev rfl) (J.ev rfl))) rfl fun U J => ?_
    refine x_m J rfl fun U J => ?_
    refine wpList_nil ?_
    cases G
    exact ⟨_, N128_ _ rfl, Z154, wz155, A156, n157, c158, h159, h160, h161, J.sub _ rfl, X⟩
   refine ws fun K164 hK164 => ?_
   refine x_m J rfl fun U J => ?_
   refine x_m J rfl fun U J => ?_
   obtain ⟨x165, h166, G⟩ := bnd G
   refine x_ia' uu22 sz36 (X.imm 2 h142 rfl) h166 J (fun U J => ?_) rfl
   obtain ⟨cs, hV, hc167⟩ := el (X.imm 2 h142 rfl) h166
   obtain ⟨A168, n169, c170, A171, n172, c173, A174, n175, c176, rfl, h177, h178, h179⟩ := hV
   refine x_lda' (cs := [.int .u8 x165.f0, .slice A168 n169 c170, .slice A171 n172 c173, .int .u8 x165.f3, .slice A174 n175 c176]) uu36 sz36 (fun j u h => by rw [ea_add]; exact hc167 _ _ h) J (fun U J => ?_) rfl
   refine x_alloc' (cs := [.int .u8 0, .slice none 0 0, .slice none 0 0, .int .u8 0, .slice none 0 0]) zr36 J X (fun g180 U w X J => ?_) rfl
   refine x_stb' 0 sz36 J X rfl (fun  U w X J => ?_) rfl
   refine wn (hK164 _ _ ?_)
   refine wp_seq_k fun K181 hK181 => ?_
   refine ws fun K182 hK182 => ?_
   refine x_fab' fa36_1 J (fun U J => ?_) rfl
   refine x_ld' uu29 (X.cell 0 rfl 1 _ rfl) J (fun U J => ?_) rfl
   refine x_len' uu29 (X.imm 3 h177 rfl).2.1 J (fun U J => ?_) rfl
   refine x_v J (r_gtI rfl (J.ev rfl) (J.ev rfl)) rfl fun U J => ?_
   refine wn (hK182 _ _ ?_)
   refine c_if J rfl (fun hb183 => ?_) fun hb183 => ?_
   ·replace G := ift hb183 G
    refine ws fun K184 hK184 => ?_
    refine x_m J rfl fun U J => ?_
    refine wn (hK184 _ _ ?_)
    refine wp_ret ?_
    replace X := X.drop 0 |>.drop 0 |>.drop 0
    cases G
    have ht := T128_ _ rfl
    subst ht
    replace G := hR128
    replace G : some true = some y := G
    cases G
    refine hQ _ _ ?_
    refine lv Tryz.results6 J rfl ?_
    exact ⟨Z131, wz132, rfl, h141, X⟩
   replace G := iff' hb183 G
   refine wp_skip ?_
   refine hK181 _ _ ?_
   refine ws fun K185 hK185 => ?_
   refine x_fab' fa36_2 J (fun U J => ?_) rfl
   refine x_ld' uu31 (X.cell 0 rfl 2 _ rfl) J (fun U J => ?_) rfl
   obtain ⟨y186, h187, G⟩ := bnd G
   refine x_call' en10 J (F_law18_fine (L := blk g180 36 [.int .u8 x165.f0, .slice A168 n169 c170, .slice A171 n172 c173, .int .u8 x165.f3, .slice A174 n175 c176] :: blk g120 33 [.int .u64 x137, str s138, .slice A133 n134 c135] :: optP (obj66) p118 o136 :: zone Z131 wz132 :: L) x165.f2 A171 n172 c173 h187 (h178.rdl 3 rfl) X) (fun v U w hR J => ?_) rfl
   obtain ⟨B188, m189, d190, rfl, X⟩ := hR
   refine x_m J rfl fun U J => ?_
   refine wn (hK185 _ _ ?_)
   refine ws fun K191 hK191 => ?_
   refine x_lda' (ad := ⟨g120, 0, none⟩) (cs := [.int .u64 x137, str s138, .slice A133 n134 c135]) uu33 sz33 (fun j u h => by rw [add_mk, Nat.zero_add]; exact X.cell 2 rfl j u h) J (fun U J => ?_) rfl
   refine x_alloc' (cs := [.int .u64 0, str [], .slice none 0 0]) zr33 J X (fun g192 U w X J => ?_) rfl
   refine x_stb' 0 sz33 J X rfl (fun  U w X J => ?_) rfl
   refine wn (hK191 _ _ ?_)
   refine ws fun K193 hK193 => ?_
   refine x_m J rfl fun U J => ?_
   refine wn (hK193 _ _ ?_)
   refine wp_seq_k fun K194 hK194 => ?_
   refine wp_block_k fun Kx195 hKx195 => ?_
   have hb3 : ∀ (o196 : (Option S66)) (x197 : Int) (s198 : (List UInt8)) (l199 : (List S63)) (x200 : Int), law18_CommitFalls_b3 x137 s138 l139 x140 x165 o196 x197 s198 l199 x200 = some o128 → ∀ (Z201 : Nat → Prop) (wz202 : World) (A203 : Option Addr) (n204 : Nat) (c205 : Nat) (h206 : Sub Z wz Z201 wz202) (h207 : Imm Z201 wz202 (kz36 Z201 wz202) A0 n0 c0 a0) (h208 : Imm Z201 wz202 k63 A133 n134 c135 l139) (h209 : Imm Z201 wz202 (kI .u8) A168 n169 c170 x165.f1) (h210 : Imm Z201 wz202 k63 A171 n172 c173 x165.f2) (h211 : Imm Z201 wz202 (kI .i64) A174 n175 c176 x165.f4) (h212 : Imm Z201 wz202 k63 A203 n204 c205 l199) (U : Act) (w : World), FR 199 [] U [(0, .slice A0 n0 c0), (5, .pointer p118), (7, (pP g120)), (8, .int .i64 x140), (9, (pP g180)), (11, (pP g192)), (12, .int .i64 x200)] → SH r (blk g120 33 [.int .u64 x137, str s138, .slice A133 n134 c135] :: blk g180 36 [.int .u8 x165.f0, .slice A168 n169 c170, .slice A171 n172 c173, .int .u8 x165.f3, .slice A174 n175 c176] :: blk g192 33 [.int .u64 x197, str s198, .slice A203 n204 c205] :: optP (obj66) p118 o196 :: zone Z201 wz202 :: L) w → Kx195 U w := by
    intro o196 x197 s198 l199 x200 G Z201 wz202 A203 n204 c205 h206 h207 h208 h209 h210 h211 h212 U w J X
    unfold law18_CommitFalls_b3 at G
    refine hKx195 _ _ ?_
    refine hK194 _ _ ?_
    refine wp_seq_k fun K213 hK213 => ?_
    refine wp_seq_k fun K214 hK214 => ?_
    have hj2 : ∀ (b215 : Bool), law18_CommitFalls_j2 x137 s138 l139 x140 x165 o196 x197 s198 l199 x200 b215 = some o128 → ∀ (U : Act) (w : World), FR 199 [] U [(0, .slice A0 n0 c0), (5, .pointer p118), (7, (pP g120)), (8, .int .i64 x140), (9, (pP g180)), (11, (pP g192)), (12, .int .i64 x200), (113, .bool b215)] → SH r (blk g120 33 [.int .u64 x137, str s138, .slice A133 n134 c135] :: blk g180 36 [.int .u8 x165.f0, .slice A168 n169 c170, .slice A171 n172 c173, .int .u8 x165.f3, .slice A174 n175 c176] :: blk g192 33 [.int .u64 x197, str s198, .slice A203 n204 c205] :: optP (obj66) p118 o196 :: zone Z201 wz202 :: L) w → K214 U w := by
     intro b215 G U w J X
     unfold law18_CommitFalls_j2 at G
     refine hK214 _ _ ?_
     refine c_if J rfl (fun hb216 => ?_) fun hb216 => ?_
     ·replace G := ift hb216 G
      refine ws fun K217 hK217 => ?_
      refine x_m J rfl fun U J => ?_
      refine wn (hK217 _ _ ?_)
      refine wp_ret ?_
      replace X := X.drop 0 |>.drop 0 |>.drop 0 |>.drop 0
      cases G
      have ht := T128_ _ rfl
      subst ht
      replace G := hR128
      replace G : some false = some y := G
      cases G
      refine hQ _ _ ?_
      refine lv Tryz.results6 J rfl ?_
      exact ⟨Z201, wz202, rfl, h206, X⟩
     replace G := iff' hb216 G
     refine wp_skip ?_
     refine hK213 _ _ ?_
     refine wp_seq_k fun K218 hK218 => ?_
     have hj3 : ∀ (x219 : Int) (s220 : (List UInt8)) (l221 : (List S63)), law18_CommitFalls_j3 x140 x165 o196 x197 s198 l199 x200 x219 s220 l221 = some o128 → ∀ (A222 : Option Addr) (n223 : Nat) (c224 : Nat) (h225 : Imm Z201 wz202 k63 A222 n223 c224 l221) (U : Act) (w : World), FR 199 [] U [(0, .slice A0 n0 c0), (5, .pointer p118), (7, (pP g120)), (8, .int .i64 x140), (9, (pP g180)), (11, (pP g192)), (12, .int .i64 x200)] → SH r (blk g120 33 [.int .u64 x219, str s220, .slice A222 n223 c224] :: blk g180 36 [.int .u8 x165.f0, .slice A168 n169 c170, .slice A171 n172 c173, .int .u8 x165.f3, .slice A174 n175 c176] :: blk g192 33 [.int .u64 x197, str s198, .slice A203 n204 c205] :: optP (obj66) p118 o196 :: zone Z201 wz202 :: L) w → K218 U w := by
      intro x219 s220 l221 G A222 n223 c224 h225 U w J X
      unfold law18_CommitFalls_j3 at G
      refine hK218 _ _ ?_
      refine wp_seq_k fun K226 hK226 => ?_
      refine wp_seq_k fun K227 hK227 => ?_
      have hj4 : ∀ (b228 : Bool), law18_CommitFalls_j4 x140 x165 o196 x197 s198 l199 x200 x219 s220 l221 b228 = some o128 → ∀ (U : Act) (w : World), FR 199 [] U [(0, .slice A0 n0 c0), (5, .pointer p118), (7, (pP g120)), (8, .int .i64 x140), (9, (pP g180)), (11, (pP g192)), (12, .int .i64 x200), (123, .bool b228)] → SH r (blk g120 33 [.int .u64 x219, str s220, .slice A222 n223 c224] :: blk g180 36 [.int .u8 x165.f0, .slice A168 n169 c170, .slice A171 n172 c173, .int .u8 x165.f3, .slice A174 n175 c176] :: blk g192 33 [.int .u64 x197, str s198, .slice A203 n204 c205] :: optP (obj66) p118 o196 :: zone Z201 wz202 :: L) w → K227 U w := by
       intro b228 G U w J X
       unfold law18_CommitFalls_j4 at G
       refine hK227 _ _ ?_
       refine c_if J rfl (fun hb229 => ?_) fun hb229 => ?_
       ·replace G := ift hb229 G
        refine ws fun K230 hK230 => ?_
        refine x_m J rfl fun U J => ?_
        refine wn (hK230 _ _ ?_)
        refine ws fun K231 hK231 => ?_
        refine x_m J rfl fun U J => ?_
        refine wn (hK231 _ _ ?_)
        refine ws fun K232 hK232 => ?_
        refine x_m J rfl fun U J => ?_
        refine wn (hK232 _ _ ?_)
        refine wp_seq_k fun K233 hK233 => ?_
        refine ws fun K234 hK234 => ?_
        refine x_m J rfl fun U J => ?_
        refine wn (hK234 _ _ ?_)
        refine wp_block_k fun Kx235 hKx235 => ?_
        have hb4 : ∀ (o236 : (Option S66)) (x237 : Int) (x238 : Int) (l239 : (List Int)) (l240 : (List S63)), law18_CommitFalls_b4 x140 x197 s198 l199 x219 s220 l221 o236 x237 x238 l239 l240 = some o128 → ∀ (Z241 : Nat → Prop) (wz242 : World) (A243 : Option Addr) (n244 : Nat) (c245 : Nat) (A246 : Option Addr) (n247 : Nat) (c248 : Nat) (h249 : Sub Z wz Z241 wz242) (h250 : Imm Z241 wz242 (kz36 Z241 wz242) A0 n0 c0 a0) (h251 : Imm Z241 wz242 k63 A222 n223 c224 l221) (h252 : Imm Z241 wz242 k63 A203 n204 c205 l199) (U : Act) (w : World), FR 199 [] U [(0, .slice A0 n0 c0), (5, .pointer p118), (7, (pP g120)), (8, .int .i64 x140), (11, (pP g192)), (12, .int .i64 x237), (14, .int .u64 x238), (15, .slice A243 n244 c245), (16, .slice A246 n247 c248)] → SH r (blk g120 33 [.int .u64 x219, str s220, .slice A222 n223 c224] :: blk g192 33 [.int .u64 x197, str s198, .slice A203 n204 c205] :: optP (obj66) p118 o236 :: own (kI .u8) 5 A243 n244 c245 l239 :: own k63 63 A246 n247 c248 l240 :: zone Z241 wz242 :: L) w → Kx235 U w := by
         intro o236 x237 x238 l239 l240 G Z241 wz242 A243 n244 c245 A246 n247 c248 h249 h250 h251 h252 U w J X
         unfold law18_CommitFalls_b4 at G
         refine hKx235 _ _ ?_
         refine hK233 _ _ ?_
         refine ws fun K253 hK253 => ?_
         refine x_m J rfl fun U J => ?_
         replace X := X.pk 2
         obtain ⟨y254, h255, G⟩ := bnd G
         refine x_call' en18 J (F_files_Store_Arm (L := blk g120 33 [.int .u64 x219, str s220, .slice A222 n223 c224] :: blk g192 33 [.int .u64 x197, str s198, .slice A203 n204 c205] :: own (kI .u8) 5 A243 n244 c245 l239 :: own k63 63 A246 n247 c248 l240 :: zone Z241 wz242 :: L) o236 0 p118 h255 X) (fun v U w hR J => ?_) rfl
         obtain ⟨rfl, X⟩ := hR
         refine wn (hK253 _ _ ?_)
         refine wp_seq_k fun K256 hK256 => ?_
         refine wp_seq_k fun K257 hK257 => ?_
         have hj5 : ∀ (b258 : Bool), law18_CommitFalls_j5 x140 x197 s198 l199 x219 s220 l221 x238 l239 l240 y254 b258 = some o128 → ∀ (U : Act) (w : World), FR 199 [] U [(0, .slice A0 n0 c0), (5, .pointer p118), (7, (pP g120)), (8, .int .i64 x140), (11, (pP g192)), (14, .int .u64 x238), (15, .slice A243 n244 c245), (16, .slice A246 n247 c248), (172, .bool b258)] → SH r (blk g120 33 [.int .u64 x219, str s220, .slice A222 n223 c224] :: blk g192 33 [.int .u64 x197, str s198, .slice A203 n204 c205] :: optP (obj66) p118 y254.2 :: own (kI .u8) 5 A243 n244 c245 l239 :: own k63 63 A246 n247 c248 l240 :: zone Z241 wz242 :: L) w → K257 U w := by
          intro b258 G U w J X
          unfold law18_CommitFalls_j5 at G
          refine hK257 _ _ ?_
          refine c_if J rfl (fun hb259 => ?_) fun hb259 => ?_
          ·replace G := ift hb259 G
           refine ws fun K260 hK260 => ?_
           refine x_m J rfl fun U J => ?_
           refine wn (hK260 _ _ ?_)
           refine wp_ret ?_
           replace X := X.drop 0 |>.drop 0 |>.drop 0 |>.drop 0 |>.drop 0
           cases G
           have ht := T128_ _ rfl
           subst ht
           replace G := hR128
           replace G : some false = some y := G
           cases G
           refine hQ _ _ ?_
           refine lv Tryz.results6 J rfl ?_
           exact ⟨Z241, wz242, rfl, h249, X⟩
          replace G := iff' hb259 G
          refine wp_skip ?_
          refine hK256 _ _ ?_
          refine wp_seq_k fun K261 hK261 => ?_
          refine ws fun K262 hK262 => ?_
          refine x_m J rfl fun U J => ?_
          refine x_m J rfl fun U J => ?_
          refine x_m J rfl fun U J => ?_
          refine x_lda' (ad := ⟨g120, 0, none⟩) (cs := [.int .u64 x219, str s220, .slice A222 n223 c224]) uu33 sz33 (fun j u h => by rw [add_mk, Nat.zero_add]; exact X.cell 0 rfl j u h) J (fun U J => ?_) rfl
          obtain ⟨y263, h264, G⟩ := bnd G
          refine x_call' en13 J (F_law18_has (L := blk g120 33 [.int .u64 x219, str s220, .slice A222 n223 c224] :: blk g192 33 [.int .u64 x197, str s198, .slice A203 n204 c205] :: optP (obj66) p118 y254.2 :: own (kI .u8) 5 A243 n244 c245 l239 :: own k63 63 A246 n247 c248 l240 :: zone Z241 wz242 :: L) x238 l239 l240 (⟨x219, s220, l221⟩ : S33) A243 n244 c245 A246 n247 c248 A222 n223 c224 h264 (RdL.own 3 rfl (X.dropN 0)) (RdL.own 4 rfl (X.dropN 0)) (h251.rdl 5 rfl) X) (fun v U w hR J => ?_) rfl
          obtain ⟨rfl, X⟩ := hR
          refine x_v J (r_not rfl (J.ev rfl)) rfl fun U J => ?_
          refine wn (hK262 _ _ ?_)
          refine c_if J rfl (fun hb265 => ?_) fun hb265 => ?_
          ·replace G := ift hb265 G
           refine wp_reg ?_
           refine x_lda' (ad := ⟨g192, 0, none⟩) (cs := [.int .u64 x197, str s198, .slice A203 n204 c205]) uu33 sz33 (fun j u h => by rw [add_mk, Nat.zero_add]; exact X.cell 1 rfl j u h) J (fun U J => ?_) rfl
           refine x_stb' 0 sz33 J X rfl (fun  U w X J => ?_) rfl
           refine wn (hK261 _ _ ?_)
           refine wp_exit ?_
           replace X := X.drop 1 |>.drop 2 |>.drop 2
           exact hb2 y254.2 x197 s198 l199 G Z241 wz242 A203 n204 c205 h249 h250 h252 U w (J.sub _ rfl) X
          replace G := iff' hb265 G
          refine wp_skip ?_
          refine hK261 _ _ ?_
          refine wp_exit ?_
          replace X := X.drop 1 |>.drop 2 |>.drop 2
          exact hb2 y254.2 x219 s220 l221 G Z241 wz242 A222 n223 c224 h249 h250 h251 U w (J.sub _ rfl) X
         refine wp_reg ?_
         refine x_m J rfl fun U J => ?_
         refine x_v J (r_neI rfl (J.ev rfl) (J.ev rfl)) rfl fun U J => ?_
         refine x_m J rfl fun U J => ?_
         refine bcase (b := x237 != 0) (fun hb266 => ?_) fun hb266 => ?_
         ·replace G := ift hb266 G
          refine xO 7 hb266 J rfl fun U J => ?_
          refine x_offU' J (fun U J => ?_) rfl
          refine x_offU' J (fun U J => ?_) rfl
          refine x_offU' J (fun U J => ?_) rfl
          refine x_offU' J (fun U J => ?_) rfl
          refine x_offU' J (fun U J => ?_) rfl
          refine x_offU' J (fun U J => ?_) rfl
          refine xO 1 hb266 J rfl fun U J => ?_
          refine x_pickt' hb266 J (fun U J => ?_) rfl
          refine wpList_nil ?_
          replace X := X.pk 5 |>.pk 5 |>.pk 5 |>.pk 3 |>.pk 5 |>.pk 5
          exact hj5 true G U w (J.sub _ rfl) X
         replace G := iff' hb266 G
         refine x_on' hb266 J ?_ rfl
         refine x_m J rfl fun U J => ?_
         refine x_on' hb266 J ?_ rfl
         refine x_m J rfl fun U J => ?_
         refine x_on' hb266 J ?_ rfl
         refine x_m J rfl fun U J => ?_
         refine x_on' hb266 J ?_ rfl
         refine x_lda' (ad := ⟨g120, 0, none⟩) (cs := [.int .u64 x219, str s220, .slice A222 n223 c224]) uu33 sz33 (fun j u h => by rw [add_mk, Nat.zero_add]; exact X.cell 1 rfl j u h) J (fun U J => ?_) rfl
         refine x_on' hb266 J ?_ rfl
         obtain ⟨y267, h268, G⟩ := bnd G
         refine x_call' en13 J (F_law18_has (L := optP (obj66) p118 y254.2 :: blk g120 33 [.int .u64 x219, str s220, .slice A222 n223 c224] :: blk g192 33 [.int .u64 x197, str s198, .slice A203 n204 c205] :: own (kI .u8) 5 A243 n244 c245 l239 :: own k63 63 A246 n247 c248 l240 :: zone Z241 wz242 :: L) x238 l239 l240 (⟨x219, s220, l221⟩ : S33) A243 n244 c245 A246 n247 c248 A222 n223 c224 h268 (RdL.own 3 rfl (X.dropN 0)) (RdL.own 4 rfl (X.dropN 0)) (h251.rdl 5 rfl) X) (fun v U w hR J => ?_) rfl
         obtain ⟨rfl, X⟩ := hR
         refine x_on' hb266 J ?_ rfl
         refine x_v J (r_not rfl (J.ev rfl)) rfl fun U J => ?_
         refine x_on' hb266 J ?_ rfl
         refine x_m J rfl fun U J => ?_
         refine bcase (b := !y267) (fun hb269 => ?_) fun hb269 => ?_
         ·replace G := ift hb269 G
          refine x_on' hb269 J ?_ rfl
          refine x_m J rfl fun U J => ?_
          refine x_on' hb269 J ?_ rfl
          refine x_m J rfl fun U J => ?_
          refine x_on' hb269 J ?_ rfl
          refine x_m J rfl fun U J => ?_
          refine x_on' hb269 J ?_ rfl
          refine x_lda' (ad := ⟨g192, 0, none⟩) (cs := [.int .u64 x197, str s198, .slice A203 n204 c205]) uu33 sz33 (fun j u h => by rw [add_mk, Nat.zero_add]; exact X.cell 2 rfl j u h) J (fun U J => ?_) rfl
          refine x_on' hb269 J ?_ rfl
          obtain ⟨y270, h271, G⟩ := bnd G
          refine x_call' en13 J (F_law18_has (L := optP (obj66) p118 y254.2 :: blk g120 33 [.int .u64 x219, str s220, .slice A222 n223 c224] :: blk g192 33 [.int .u64 x197, str s198, .slice A203 n204 c205] :: own (kI .u8) 5 A243 n244 c245 l239 :: own k63 63 A246 n247 c248 l240 :: zone Z241 wz242 :: L) x238 l239 l240 (⟨x197, s198, l199⟩ : S33) A243 n244 c245 A246 n247 c248 A203 n204 c205 h271 (RdL.own 3 rfl (X.dropN 0)) (RdL.own 4 rfl (X.dropN 0)) (h252.rdl 5 rfl) X) (fun v U w hR J => ?_) rfl
          obtain ⟨rfl, X⟩ := hR
          refine x_on' hb269 J ?_ rfl
          refine x_v J (r_not rfl (J.ev rfl)) rfl fun U J => ?_
          refine x_on' hb266 J ?_ rfl
          refine x_pickt' hb269 J (fun U J => ?_) rfl
          refine x_pickf' hb266 J (fun U J => ?_) rfl
          refine wpList_nil ?_
          replace X := X.pk 5 |>.pk 5 |>.pk 5 |>.pk 3 |>.pk 5 |>.pk 5
          exact hj5 (!y270) G U w (J.sub _ rfl) X
         replace G := iff' hb269 G
         refine xO 6 hb269 J rfl fun U J => ?_
         refine x_on' hb266 J ?_ rfl
         refine x_pickf' hb269 J (fun U J => ?_) rfl
         refine x_pickf' hb266 J (fun U J => ?_) rfl
         refine wpList_nil ?_
         replace X := X.pk 5 |>.pk 5 |>.pk 5 |>.pk 3 |>.pk 5 |>.pk 5
         exact hj5 false G U w (J.sub _ rfl) X
        obtain ⟨t272, hl272, G⟩ := bnd G
        have hR272 := G
        have hx272_3 : ∀ (o273 : (Option S66)) (x274 : Int) (x275 : Int) (l276 : (List Int)) (l277 : (List S63)), (.inl (o273, x274, x275, l276, l277)) = t272 → ∀ (Z278 : Nat → Prop) (wz279 : World) (A280 : Option Addr) (n281 : Nat) (c282 : Nat) (A283 : Option Addr) (n284 : Nat) (c272 : Nat) (h285 : Sub Z wz Z278 wz279) (h286 : Imm Z278 wz279 (kz36 Z278 wz279) A0 n0 c0 a0) (h287 : Imm Z278 wz279 k63 A222 n223 c224 l221) (h288 : Imm Z278 wz279 k63 A203 n204 c205 l199) (U : Act) (w : World), FR 199 [] U [(0, .slice A0 n0 c0), (5, .pointer p118), (7, (pP g120)), (8, .int .i64 x140), (11, (pP g192)), (12, .int .i64 x274), (14, .int .u64 x275), (15, .slice A280 n281 c282), (16, .slice A283 n284 c272)] → SH r (blk g120 33 [.int .u64 x219, str s220, .slice A222 n223 c224] :: blk g192 33 [.int .u64 x197, str s198, .slice A203 n204 c205] :: optP (obj66) p118 o273 :: own (kI .u8) 5 A280 n281 c282 l276 :: own k63 63 A283 n284 c272 l277 :: zone Z278 wz279 :: L) w → Kx235 U w := by
         intro o273 x274 x275 l276 l277 ht Z278 wz279 A280 n281 c282 A283 n284 c272 h285 h286 h287 h288 U w J X
         subst ht
         replace G : law18_CommitFalls_x2_3 x140 x197 s198 l199 x219 s220 l221 o273 x274 x275 l276 l277 = some o128 := G
         unfold law18_CommitFalls_x2_3 at G
         exact hb4 o273 x274 x275 l276 l277 G Z278 wz279 A280 n281 c282 A283 n284 c272 h285 h286 h287 h288 U w (J.sub _ rfl) X
        replace X := SH.nil_own (d := (kI .u8)) (e := 5) X
        replace X := SH.nil_own (d := k63) (e := 63) X
        replace X := X.pk 6 |>.pk 1 |>.pk 2 |>.pk 6 |>.pk 6 |>.pk 6 |>.pk 6
        refine wp_loop_fn hl272 (fun s U w => ∃ (Z289 : Nat → Prop) (wz290 : World) (A291 : Option Addr) (n292 : Nat) (c293 : Nat) (A294 : Option Addr) (n295 : Nat) (c296 : Nat), Sub Z wz Z289 wz290 ∧ Imm Z289 wz290 (kz36 Z289 wz290) A0 n0 c0 a0 ∧ Imm Z289 wz290 k63 A222 n223 c224 l221 ∧ Imm Z289 wz290 (kI .u8) A168 n169 c170 x165.f1 ∧ Imm Z289 wz290 k63 A171 n172 c173 x165.f2 ∧ Imm Z289 wz290 (kI .i64) A174 n175 c176 x165.f4 ∧ Imm Z289 wz290 k63 A203 n204 c205 l199 ∧ FR 199 [] U [(0, .slice A0 n0 c0), (5, .pointer p118), (7, (pP g120)), (8, .int .i64 x140), (9, (pP g180)), (11, (pP g192)), (12, .int .i64 s.2.1), (14, .int .u64 s.2.2.1), (15, .slice A291 n292 c293), (16, .slice A294 n295 c296), (17, .int .i64 s.2.2.2.2.2)] ∧ SH r (blk g120 33 [.int .u64 x219, str s220, .slice A222 n223 c224] :: blk g180 36 [.int .u8 x165.f0, .slice A168 n169 c170, .slice A171 n172 c173, .int .u8 x165.f3, .slice A174 n175 c176] :: blk g192 33 [.int .u64 x197, str s198, .slice A203 n204 c205] :: optP (obj66) p118 s.1 :: own (kI .u8) 5 A291 n292 c293 s.2.2.2.1 :: own k63 63 A294 n295 c296 s.2.2.2.2.1 :: zone Z289 wz290 :: L) w) ⟨Z201, wz202, none, 0, 0, none, 0, 0, h206, h207, h225, h209, h210, h211, h212, J.sub _ rfl, X⟩ ?_
        intro N272 s272 o272 G N272_ T272_ U w hLab
        obtain ⟨o297, x298, x299, l300, l301, x302⟩ := s272
        replace G : law18_CommitFalls_l2 x165 o297 x298 x299 l300 l301 x302 = some o272 := G
        unfold law18_CommitFalls_l2 at G
        try dsimp only at hLab
        obtain ⟨Z289, wz290, A291, n292, c293, A294, n295, c296, h303, h304, h305, h306, h307, h308, h309, J, X⟩ := hLab
        refine wp_seq_k fun K310 hK310 => ?_
        refine ws fun K311 hK311 => ?_
        refine x_m J rfl fun U J => ?_
        refine x_v J (r_ltI rfl (J.ev rfl) (J.ev rfl)) rfl fun U J => ?_
        refine wn (hK311 _ _ ?_)
        refine c_if J rfl (fun hb312 => ?_) fun hb312 => ?_
        ·replace G := ift hb312 G
         refine wp_skip ?_
         refine hK310 _ _ ?_
         refine wp_seq_k fun K313 hK313 => ?_
         refine wp_block_k fun Kx314 hKx314 => ?_
         refine ws fun K315 hK315 => ?_
         refine x_m J rfl fun U J => ?_
         refine x_fab' fa36_4 J (fun U J => ?_) rfl
         refine x_ld' uu34 (X.cell 1 rfl 4 _ rfl) J (fun U J => ?_) rfl
         replace X := X.pk 3
         obtain ⟨y316, h317, G⟩ := bnd G
         refine x_call' en16 J (F_files_Store_Restart (L := blk g120 33 [.int .u64 x219, str s220, .slice A222 n223 c224] :: blk g180 36 [.int .u8 x165.f0, .slice A168 n169 c170, .slice A171 n172 c173, .int .u8 x165.f3, .slice A174 n175 c176] :: blk g192 33 [.int .u64 x197, str s198, .slice A203 n204 c205] :: own (kI .u8) 5 A291 n292 c293 l300 :: own k63 63 A294 n295 c296 l301 :: zone Z289 wz290 :: L) o297 x165.f4 p118 A174 n175 c176 h317 (h308.rdl 5 rfl) X) (fun v U w hR J => ?_) rfl
         obtain ⟨rfl, X⟩ := hR
         refine wn (hK315 _ _ ?_)
         refine wp_seq_k fun K318 hK318 => ?_
         have hj6 : ∀ (o319 : (Option S66)), law18_CommitFalls_j6 x302 o319 = some o272 → ∀ (U : Act) (w : World), FR 199 [] U [(0, .slice A0 n0 c0), (5, .pointer p118), (7, (pP g120)), (8, .int .i64 x140), (9, (pP g180)), (11, (pP g192)), (17, .int .i64 x302)] → SH r (blk g120 33 [.int .u64 x219, str s220, .slice A222 n223 c224] :: blk g180 36 [.int .u8 x165.f0, .slice A168 n169 c170, .slice A171 n172 c173, .int .u8 x165.f3, .slice A174 n175 c176] :: blk g192 33 [.int .u64 x197, str s198, .slice A203 n204 c205] :: optP (obj66) p118 o319 :: zone Z289 wz290 :: L) w → K318 U w := by
          intro o319 G U w J X
          unfold law18_CommitFalls_j6 at G
          refine hK318 _ _ ?_
          refine ws fun K320 hK320 => ?_
          refine x_m J rfl fun U J => ?_
          replace X := X.pk 4 |>.pk 4
          obtain ⟨y321, h322, G⟩ := bnd G
          refine x_call' en12 J (F_commit_Recover (L := blk g120 33 [.int .u64 x219, str s220, .slice A222 n223 c224] :: blk g180 36 [.int .u8 x165.f0, .slice A168 n169 c170, .slice A171 n172 c173, .int .u8 x165.f3, .slice A174 n175 c176] :: blk g192 33 [.int .u64 x197, str s198, .slice A203 n204 c205] :: L) o319 p118 h322 (Imm.sub hG0 h303) (Gc.sub hG1 h303) (Gc.sub hG2 h303) (Gc.sub hG3 h303) X) (fun v U w hR J => ?_) rfl
          obtain ⟨Z323, wz324, B325, m326, d327, B328, m329, d330, rfl, h331, X⟩ := hR
          have h332 := Imm.kind (d' := (kz36 Z323 wz324)) (Imm.sub h304 h331) rfl (kz36_sub h331)
          have h333 := Imm.sub h305 h331
          have h334 := Imm.sub h306 h331
          have h335 := Imm.sub h307 h331
          have h336 := Imm.sub h308 h331
          have h337 := Imm.sub h309 h331
          refine x_m J rfl fun U J => ?_
          refine x_v J (r_extract rfl (J.ev rfl) rfl) rfl fun U J => ?_
          refine x_v J (r_extract rfl (J.ev rfl) rfl) rfl fun U J => ?_
          refine x_v J (r_extract rfl (J.ev rfl) rfl) rfl fun U J => ?_
          refine x_v J (r_extract rfl (J.ev rfl) rfl) rfl fun U J => ?_
          refine x_m J rfl fun U J => ?_
          refine x_m J rfl fun U J => ?_
          refine x_m J rfl fun U J => ?_
          refine x_m J rfl fun U J => ?_
          refine wn (hK320 _ _ ?_)
          refine wp_seq_k fun K338 hK338 => ?_
          refine ws fun K339 hK339 => ?_
          refine x_m J rfl fun U J => ?_
          refine x_v J (r_eqI rfl (J.ev rfl) (J.ev rfl)) rfl fun U J => ?_
          refine wn (hK339 _ _ ?_)
          refine c_if J rfl (fun hb340 => ?_) fun hb340 => ?_
          ·replace G := ift hb340 G
           refine wp_exit ?_
           replace X := X.drop 5 |>.pk 3 |>.pk 2 |>.pk 2 |>.pk 3 |>.pk 5 |>.pk 5
           cases G
           exact hx272_3 y321.2.2.2.2 y321.2.2.2.1 y321.1 y321.2.1 y321.2.2.1 (T272_ _ rfl) Z323 wz324 B325 m326 d327 B328 m329 d330 (Sub.trans h303 h331) h332 h333 h337 U w (J.sub _ rfl) X
          replace G := iff' hb340 G
          refine wp_skip ?_
          refine hK338 _ _ ?_
          refine ws fun K341 hK341 => ?_
          refine x_m J rfl fun U J => ?_
          refine x_v J (r_neI rfl (J.ev rfl) (J.ev rfl)) rfl fun U J => ?_
          refine wn (hK341 _ _ ?_)
          refine c_if J rfl (fun hb342 => ?_) fun hb342 => ?_
          ·replace G := ift hb342 G
           refine ws fun K343 hK343 => ?_
           refine x_m J rfl fun U J => ?_
           refine wn (hK343 _ _ ?_)
           refine wp_ret ?_
           replace X := X.drop 0 |>.drop 0 |>.drop 0 |>.drop 1 |>.drop 1 |>.drop 1
           cases G
           have ht := T272_ _ rfl
           subst ht
           replace G := hR272
           replace G : some (.inr (.inr false)) = some o128 := G
           cases G
           have ht := T128_ _ rfl
           subst ht
           replace G := hR128
           replace G : some false = some y := G
           cases G
           refine hQ _ _ ?_
           refine lv Tryz.results6 J rfl ?_
           exact ⟨Z323, wz324, rfl, (Sub.trans h303 h331), X⟩
          replace G := iff' hb342 G
          refine wp_skip ?_
          refine hKx314 _ _ ?_
          refine hK313 _ _ ?_
          refine wp_reg ?_
          refine x_m J rfl fun U J => ?_
          obtain ⟨x344, h345, G⟩ := ltt_ G
          refine x_v (v := .int .i64 x344) J (rv_i h345 (r_add rfl (J.ev rfl) (J.ev rfl))) rfl fun U J => ?_
          refine x_m J rfl fun U J => ?_
          refine wpList_nil ?_
          replace X := X.pk 3 |>.pk 2 |>.pk 2 |>.pk 3 |>.pk 6 |>.pk 6 |>.pk 6
          cases G
          exact ⟨_, N272_ _ rfl, Z323, wz324, B325, m326, d327, B328, m329, d330, (Sub.trans h303 h331), h332, h333, h334, h335, h336, h337, J.sub _ rfl, X⟩
         refine ws fun K346 hK346 => ?_
         refine x_m J rfl fun U J => ?_
         refine x_v J (r_ltI rfl (J.ev rfl) (J.ev rfl)) rfl fun U J => ?_
         refine wn (hK346 _ _ ?_)
         refine c_if J rfl (fun hb347 => ?_) fun hb347 => ?_
         ·replace G := ift hb347 G
          refine wp_reg ?_
          refine x_m J rfl fun U J => ?_
          refine x_fab' fa36_3 J (fun U J => ?_) rfl
          refine x_ld' uu5 (X.cell 2 rfl 3 _ rfl) J (fun U J => ?_) rfl
          refine x_m J rfl fun U J => ?_
          obtain ⟨h348, G⟩ := chk_some G
          obtain ⟨x349, h350, G⟩ := ltt_ G
          refine x_v (v := .int .u8 x349) J (rv_i h350 (r_shr rfl (J.ev rfl) (J.ev rfl) h348)) rfl fun U J => ?_
          obtain ⟨x351, h352, G⟩ := ltt_ G
          refine x_v (v := .int .i64 x351) J (rv_i h352 (r_convI uu5 uu3 rfl (J.ev rfl))) rfl fun U J => ?_
          obtain ⟨x353, h354, G⟩ := ltt_ G
          refine x_v (v := .int .i64 x353) J (rv_i h354 (r_rem rfl (J.ev rfl) (J.ev rfl) (by decide))) rfl fun U J => ?_
          obtain ⟨y355, h356, G⟩ := bnd G
          refine x_call' en18 J (F_files_Store_Arm (L := blk g120 33 [.int .u64 x219, str s220, .slice A222 n223 c224] :: blk g180 36 [.int .u8 x165.f0, .slice A168 n169 c170, .slice A171 n172 c173, .int .u8 x165.f3, .slice A174 n175 c176] :: blk g192 33 [.int .u64 x197, str s198, .slice A203 n204 c205] :: own (kI .u8) 5 A291 n292 c293 l300 :: own k63 63 A294 n295 c296 l301 :: zone Z289 wz290 :: L) y316.2 x353 p118 h356 X) (fun v U w hR J => ?_) rfl
          obtain ⟨rfl, X⟩ := hR
          refine wpList_nil ?_
          replace X := X.drop 4 |>.drop 4 |>.pk 4 |>.pk 1 |>.pk 4 |>.pk 4 |>.pk 4
          exact hj6 y355.2 G U w (J.sub _ rfl) X
         replace G := iff' hb347 G
         refine wp_skip ?_
         replace X := X.drop 4 |>.drop 4 |>.pk 4 |>.pk 1 |>.pk 4 |>.pk 4 |>.pk 4
         exact hj6 y316.2 G U w (J.sub _ rfl) X
        replace G := iff' hb312 G
        refine wp_exit ?_
        replace X := X.drop 1
        cases G
        exact hx272_3 o297 x298 x299 l300 l301 (T272_ _ rfl) Z289 wz290 A291 n292 c293 A294 n295 c296 h303 h304 h305 h309 U w (J.sub _ rfl) X
       replace G := iff' hb229 G
       refine wp_skip ?_
       refine hK226 _ _ ?_
       refine ws fun K357 hK357 => ?_
       refine x_m J rfl fun U J => ?_
       replace X := X.pk 3
       obtain ⟨y358, h359, G⟩ := bnd G
       refine x_call' en18 J (F_files_Store_Arm (L := blk g120 33 [.int .u64 x219, str s220, .slice A222 n223 c224] :: blk g180 36 [.int .u8 x165.f0, .slice A168 n169 c170, .slice A171 n172 c173, .int .u8 x165.f3, .slice A174 n175 c176] :: blk g192 33 [.int .u64 x197, str s198, .slice A203 n204 c205] :: zone Z201 wz202 :: L) o196 0 p118 h359 X) (fun v U w hR J => ?_) rfl
       obtain ⟨rfl, X⟩ := hR
       refine wn (hK357 _ _ ?_)
       refine ws fun K360 hK360 => ?_
       refine x_m J rfl fun U J => ?_
       replace X := X.pk 4 |>.pk 1
       obtain ⟨y361, h362, G⟩ := bnd G
       refine x_call' en12 J (F_commit_Recover (L := blk g120 33 [.int .u64 x219, str s220, .slice A222 n223 c224] :: blk g180 36 [.int .u8 x165.f0, .slice A168 n169 c170, .slice A171 n172 c173, .int .u8 x165.f3, .slice A174 n175 c176] :: blk g192 33 [.int .u64 x197, str s198, .slice A203 n204 c205] :: L) y358.2 p118 h362 (Imm.sub hG0 h206) (Gc.sub hG1 h206) (Gc.sub hG2 h206) (Gc.sub hG3 h206) X) (fun v U w hR J => ?_) rfl
       obtain ⟨Z363, wz364, B365, m366, d367, B368, m369, d370, rfl, h371, X⟩ := hR
       have h372 := Imm.kind (d' := (kz36 Z363 wz364)) (Imm.sub h207 h371) rfl (kz36_sub h371)
       have h373 := Imm.sub h225 h371
       have h374 := Imm.sub h209 h371
       have h375 := Imm.sub h210 h371
       have h376 := Imm.sub h211 h371
       have h377 := Imm.sub h212 h371
       refine x_m J rfl fun U J => ?_
       refine x_v J (r_extract rfl (J.ev rfl) rfl) rfl fun U J => ?_
       refine x_v J (r_extract rfl (J.ev rfl) rfl) rfl fun U J => ?_
       refine x_v J (r_extract rfl (J.ev rfl) rfl) rfl fun U J => ?_
       refine x_v J (r_extract rfl (J.ev rfl) rfl) rfl fun U J => ?_
       refine x_m J rfl fun U J => ?_
       refine x_m J rfl fun U J => ?_
       refine x_m J rfl fun U J => ?_
       refine x_m J rfl fun U J => ?_
       refine wn (hK360 _ _ ?_)
       refine wp_seq_k fun K378 hK378 => ?_
       have hj7 : ∀ (b379 : Bool), law18_CommitFalls_j7 x140 x219 s220 l221 y361 b379 = some o128 → ∀ (U : Act) (w : World), FR 199 [] U [(0, .slice A0 n0 c0), (5, .pointer p118), (7, (pP g120)), (8, .int .i64 x140), (198, .bool b379)] → SH r (blk g120 33 [.int .u64 x219, str s220, .slice A222 n223 c224] :: optP (obj66) p118 y361.2.2.2.2 :: zone Z363 wz364 :: L) w → K378 U w := by
        intro b379 G U w J X
        unfold law18_CommitFalls_j7 at G
        refine hK378 _ _ ?_
        refine c_if J rfl (fun hb380 => ?_) fun hb380 => ?_
        ·replace G := ift hb380 G
         refine ws fun K381 hK381 => ?_
         refine x_m J rfl fun U J => ?_
         refine wn (hK381 _ _ ?_)
         refine wp_ret ?_
         replace X := X.drop 0 |>.drop 0
         cases G
         have ht := T128_ _ rfl
         subst ht
         replace G := hR128
         replace G : some false = some y := G
         cases G
         refine hQ _ _ ?_
         refine lv Tryz.results6 J rfl ?_
         exact ⟨Z363, wz364, rfl, (Sub.trans h206 h371), X⟩
        replace G := iff' hb380 G
        refine wp_skip ?_
        exact hb2 y361.2.2.2.2 x219 s220 l221 G Z363 wz364 A222 n223 c224 (Sub.trans h206 h371) h372 h373 U w (J.sub _ rfl) X
       refine wp_reg ?_
       refine x_m J rfl fun U J => ?_
       refine x_v J (r_neI rfl (J.ev rfl) (J.ev rfl)) rfl fun U J => ?_
       refine x_m J rfl fun U J => ?_
       refine bcase (b := y361.2.2.2.1 != 0) (fun hb382 => ?_) fun hb382 => ?_
       ·replace G := ift hb382 G
        refine xO 6 hb382 J rfl fun U J => ?_
        refine x_pickt' hb382 J (fun U J => ?_) rfl
        refine wpList_nil ?_
        replace X := X.drop 0 |>.drop 0 |>.drop 3 |>.drop 3 |>.pk 1 |>.pk 1 |>.pk 2
        exact hj7 true G U w (J.sub _ rfl) X
       replace G := iff' hb382 G
       refine x_on' hb382 J ?_ rfl
       refine x_m J rfl fun U J => ?_
       refine x_on' hb382 J ?_ rfl
       refine x_m J rfl fun U J => ?_
       refine x_on' hb382 J ?_ rfl
       refine x_m J rfl fun U J => ?_
       refine x_on' hb382 J ?_ rfl
       refine x_lda' (ad := ⟨g120, 0, none⟩) (cs := [.int .u64 x219, str s220, .slice A222 n223 c224]) uu33 sz33 (fun j u h => by rw [add_mk, Nat.zero_add]; exact X.cell 4 rfl j u h) J (fun U J => ?_) rfl
       refine x_on' hb382 J ?_ rfl
       obtain ⟨y383, h384, G⟩ := bnd G
       refine x_call' en13 J (F_law18_has (L := own (kI .u8) 5 B365 m366 d367 y361.2.1 :: own k63 63 B368 m369 d370 y361.2.2.1 :: optP (obj66) p118 y361.2.2.2.2 :: zone Z363 wz364 :: blk g120 33 [.int .u64 x219, str s220, .slice A222 n223 c224] :: blk g180 36 [.int .u8 x165.f0, .slice A168 n169 c170, .slice A171 n172 c173, .int .u8 x165.f3, .slice A174 n175 c176] :: blk g192 33 [.int .u64 x197, str s198, .slice A203 n204 c205] :: L) y361.1 y361.2.1 y361.2.2.1 (⟨x219, s220, l221⟩ : S33) B365 m366 d367 B368 m369 d370 A222 n223 c224 h384 (RdL.own 0 rfl (X.dropN 0)) (RdL.own 1 rfl (X.dropN 0)) (h373.rdl 3 rfl) X) (fun v U w hR J => ?_) rfl
       obtain ⟨rfl, X⟩ := hR
       refine x_on' hb382 J ?_ rfl
       refine x_v J (r_not rfl (J.ev rfl)) rfl fun U J => ?_
       refine x_pickf' hb382 J (fun U J => ?_) rfl
       refine wpList_nil ?_
       replace X := X.drop 0 |>.drop 0 |>.drop 3 |>.drop 3 |>.pk 1 |>.pk 1 |>.pk 2
       exact hj7 (!y383) G U w (J.sub _ rfl) X
      refine wp_reg ?_
      refine x_m J rfl fun U J => ?_
      refine x_v J (r_eqI rfl (J.ev rfl) (J.ev rfl)) rfl fun U J => ?_
      refine x_m J rfl fun U J => ?_
      refine bcase (b := x200 == 9) (fun hb385 => ?_) fun hb385 => ?_
      ·replace G := ift hb385 G
       refine xO 3 hb385 J rfl fun U J => ?_
       refine x_pickt' hb385 J (fun U J => ?_) rfl
       refine wpList_nil ?_
       exact hj4 true G U w (J.sub _ rfl) X
      replace G := iff' hb385 G
      refine x_on' hb385 J ?_ rfl
      refine x_m J rfl fun U J => ?_
      refine x_on' hb385 J ?_ rfl
      replace X := X.pk 3
      obtain ⟨y386, h387, G⟩ := bnd G
      refine x_call' en19 J (F_files_Store_On (L := blk g120 33 [.int .u64 x219, str s220, .slice A222 n223 c224] :: blk g180 36 [.int .u8 x165.f0, .slice A168 n169 c170, .slice A171 n172 c173, .int .u8 x165.f3, .slice A174 n175 c176] :: blk g192 33 [.int .u64 x197, str s198, .slice A203 n204 c205] :: zone Z201 wz202 :: L) o196 p118 h387 X) (fun v U w hR J => ?_) rfl
      obtain ⟨rfl, X⟩ := hR
      refine x_on' hb385 J ?_ rfl
      refine x_v J (r_not rfl (J.ev rfl)) rfl fun U J => ?_
      refine x_pickf' hb385 J (fun U J => ?_) rfl
      refine wpList_nil ?_
      replace X := X.pk 4 |>.pk 1 |>.pk 4 |>.pk 4 |>.pk 4
      exact hj4 (!y386) G U w (J.sub _ rfl) X
     refine ws fun K388 hK388 => ?_
     refine x_m J rfl fun U J => ?_
     refine x_v J (r_eqI rfl (J.ev rfl) (J.ev rfl)) rfl fun U J => ?_
     refine wn (hK388 _ _ ?_)
     refine c_if J rfl (fun hb389 => ?_) fun hb389 => ?_
     ·replace G := ift hb389 G
      refine wp_reg ?_
      refine x_lda' (ad := ⟨g192, 0, none⟩) (cs := [.int .u64 x197, str s198, .slice A203 n204 c205]) uu33 sz33 (fun j u h => by rw [add_mk, Nat.zero_add]; exact X.cell 2 rfl j u h) J (fun U J => ?_) rfl
      refine x_stb' 0 sz33 J X rfl (fun  U w X J => ?_) rfl
      refine wpList_nil ?_
      exact hj3 x197 s198 l199 G A203 n204 c205 h212 U w (J.sub _ rfl) X
     replace G := iff' hb389 G
     refine wp_skip ?_
     exact hj3 x137 s138 l139 G A133 n134 c135 h208 U w (J.sub _ rfl) X
    refine wp_reg ?_
    refine x_m J rfl fun U J => ?_
    refine x_v J (r_neI rfl (J.ev rfl) (J.ev rfl)) rfl fun U J => ?_
    refine x_m J rfl fun U J => ?_
    refine bcase (b := x200 != 0) (fun hb390 => ?_) fun hb390 => ?_
    ·replace G := ift hb390 G
     refine x_on' hb390 J ?_ rfl
     refine x_m J rfl fun U J => ?_
     refine x_on' hb390 J ?_ rfl
     refine x_v J (r_neI rfl (J.ev rfl) (J.ev rfl)) rfl fun U J => ?_
     refine x_pickt' hb390 J (fun U J => ?_) rfl
     refine x_m J rfl fun U J => ?_
     refine bcase (b := x200 != 9) (fun hb391 => ?_) fun hb391 => ?_
     ·replace G := ift hb391 G
      refine x_on' hb391 J ?_ rfl
      refine x_m J rfl fun U J => ?_
      refine x_on' hb391 J ?_ rfl
      refine x_v J (r_neI rfl (J.ev rfl) (J.ev rfl)) rfl fun U J => ?_
      refine x_pickt' hb391 J (fun U J => ?_) rfl
      refine wpList_nil ?_
      exact hj2 (x200 != 10) G U w (J.sub _ rfl) X
     replace G := iff' hb391 G
     refine xO 2 hb391 J rfl fun U J => ?_
     refine x_pickf' hb391 J (fun U J => ?_) rfl
     refine wpList_nil ?_
     exact hj2 false G U w (J.sub _ rfl) X
    replace G := iff' hb390 G
    refine xO 2 hb390 J rfl fun U J => ?_
    refine x_pickf' hb390 J (fun U J => ?_) rfl
    refine x_m J rfl fun U J => ?_
    refine xO 2 rfl J rfl fun U J => ?_
    refine x_pickf' rfl J (fun U J => ?_) rfl
    refine wpList_nil ?_
    exact hj2 false G U w (J.sub _ rfl) X
   refine ws fun K392 hK392 => ?_
   refine x_fab' fa36_0 J (fun U J => ?_) rfl
   refine x_ld' uu5 (X.cell 2 rfl 0 _ rfl) J (fun U J => ?_) rfl
   obtain ⟨x393, h394, G⟩ := ltt_ G
   refine x_v (v := .int .u8 x393) J (rv_i h394 (r_rem rfl (J.ev rfl) (J.ev rfl) (by decide))) rfl fun U J => ?_
   refine x_v J (r_ltI rfl (J.ev rfl) (J.ev rfl)) rfl fun U J => ?_
   refine x_m J rfl fun U J => ?_
   refine wn (hK392 _ _ ?_)
   refine c_if J rfl (fun hb395 => ?_) fun hb395 => ?_
   ·replace G := ift hb395 G
    refine ws fun K396 hK396 => ?_
    refine x_fab' fa33_0 J (fun U J => ?_) rfl
    refine x_ld' uu30 (X.cell 3 rfl 0 _ rfl) J (fun U J => ?_) rfl
    obtain ⟨x397, h398, G⟩ := ltt_ G
    refine x_v (v := .int .u64 x397) J (rv_i h398 (r_add rfl (J.ev rfl) (J.ev rfl))) rfl fun U J => ?_
    refine x_fab' fa33_0 J (fun U J => ?_) rfl
    refine x_stb' 0 sz30 J X rfl (fun  U w X J => ?_) rfl
    refine wn (hK396 _ _ ?_)
    refine ws fun K399 hK399 => ?_
    refine x_fab' fa36_1 J (fun U J => ?_) rfl
    refine x_ld' uu29 (X.cell 2 rfl 1 _ rfl) J (fun U J => ?_) rfl
    refine x_b2s' uu29 uu5 uu9 (X.imm 5 h177 rfl) J (fun U J => ?_) rfl
    refine x_fab' fa33_1 J (fun U J => ?_) rfl
    refine x_stb' 0 sz9 J X rfl (fun  U w X J => ?_) rfl
    refine wn (hK399 _ _ ?_)
    refine ws fun K400 hK400 => ?_
    refine x_m J rfl fun U J => ?_
    refine wn (hK400 _ _ ?_)
    refine ws fun K401 hK401 => ?_
    refine x_m J rfl fun U J => ?_
    refine x_fab' fa33_2 J (fun U J => ?_) rfl
    refine x_ld' uu31 (X.cell 3 rfl 2 _ rfl) J (fun U J => ?_) rfl
    replace X := SH.nil_own (d := k63) (e := 63) X
    obtain ⟨h402, G⟩ := chk_some G
    have hr := X.imm 6 h143 rfl
    refine x_app' 0 inf63 uu31 J X hr.1 hr.2.1 h402 rfl (fun A403 n404 c405 U w X J => ?_) rfl
    rw [List.nil_append] at X
    refine x_m J rfl fun U J => ?_
    refine wn (hK401 _ _ ?_)
    refine ws fun K406 hK406 => ?_
    refine x_m J rfl fun U J => ?_
    refine x_m J rfl fun U J => ?_
    obtain ⟨h407, G⟩ := chk_some G
    have hr := X.rd 2 rfl
    refine x_app' 0 inf63 uu31 J X hr.1 hr.2.1 h407 rfl (fun A408 n409 c410 U w X J => ?_) rfl
    replace X := X.pk 6 |>.pk 1
    obtain ⟨Z411, wz412, X, h413, sb77233⟩ := SH.freeze (n := n409) (c := c410) (A := A408) X
    have h414 := Imm.kind (d' := (kz36 Z411 wz412)) (Imm.sub h142 sb77233) rfl (kz36_sub sb77233)
    have h415 := Imm.sub h177 sb77233
    have h416 := Imm.sub h178 sb77233
    have h417 := Imm.sub h179 sb77233
    have h418 := Imm.sub h143 sb77233
    refine x_fab' fa33_2 J (fun U J => ?_) rfl
    refine x_stb' 1 sz31 J X rfl (fun  U w X J => ?_) rfl
    refine wn (hK406 _ _ ?_)
    refine wp_reg ?_
    refine x_m J rfl fun U J => ?_
    refine x_fab' fa33_0 J (fun U J => ?_) rfl
    refine x_ld' uu30 (X.cell 0 rfl 0 _ rfl) J (fun U J => ?_) rfl
    refine x_fab' fa36_1 J (fun U J => ?_) rfl
    refine x_ld' uu29 (X.cell 3 rfl 1 _ rfl) J (fun U J => ?_) rfl
    refine x_m J rfl fun U J => ?_
    replace X := X.pk 1 |>.pk 2
    obtain ⟨Z419, wz420, X, h421, sb77242⟩ := SH.freeze (n := m189) (c := d190) (A := B188) X
    have h422 := Imm.kind (d' := (kz36 Z419 wz420)) (Imm.sub h414 sb77242) rfl (kz36_sub sb77242)
    have h423 := Imm.sub h415 sb77242
    have h424 := Imm.sub h416 sb77242
    have h425 := Imm.sub h417 sb77242
    have h426 := Imm.sub h418 sb77242
    have h427 := Imm.sub h413 sb77242
    replace X := X.pk 4
    obtain ⟨y428, h429, G⟩ := bnd G
    refine x_call' en11 J (F_commit_Put (L := blk g192 33 [.int .u64 x397, str (bts x165.f1), .slice A408 n409 c410] :: blk g180 36 [.int .u8 x165.f0, .slice A168 n169 c170, .slice A171 n172 c173, .int .u8 x165.f3, .slice A174 n175 c176] :: blk g120 33 [.int .u64 x137, str s138, .slice A133 n134 c135] :: L) o136 x397 x165.f1 y186 p118 A168 n169 c170 B188 m189 d190 h429 h423 h421 (Imm.sub hG0 (Sub.trans (Sub.trans h141 sb77233) sb77242)) (Gc.sub hG1 (Sub.trans (Sub.trans h141 sb77233) sb77242)) (Gc.sub hG2 (Sub.trans (Sub.trans h141 sb77233) sb77242)) (Gc.sub hG3 (Sub.trans (Sub.trans h141 sb77233) sb77242)) X) (fun v U w hR J => ?_) rfl
    obtain ⟨Z430, wz431, rfl, h432, X⟩ := hR
    have h433 := Imm.kind (d' := (kz36 Z430 wz431)) (Imm.sub h422 h432) rfl (kz36_sub h432)
    have h434 := Imm.sub h423 h432
    have h435 := Imm.sub h424 h432
    have h436 := Imm.sub h425 h432
    have h437 := Imm.sub h421 h432
    have h438 := Imm.sub h426 h432
    have h439 := Imm.sub h427 h432
    refine x_m J rfl fun U J => ?_
    refine wpList_nil ?_
    replace X := X.pk 1 |>.pk 1 |>.pk 2 |>.pk 3 |>.pk 4
    exact hb3 y428.2 x397 (bts x165.f1) (l139 ++ y186) y428.1 G Z430 wz431 A408 n409 c410 (Sub.trans (Sub.trans (Sub.trans h141 sb77233) sb77242) h432) h433 h438 h434 h435 h436 h439 U w (J.sub _ rfl) X
   replace G := iff' hb395 G
   refine ws fun K440 hK440 => ?_
   refine x_fab' fa36_0 J (fun U J => ?_) rfl
   refine x_ld' uu5 (X.cell 2 rfl 0 _ rfl) J (fun U J => ?_) rfl
   refine x_v (v := .int .u8 x393) J (rv_i h394 (r_rem rfl (J.ev rfl) (J.ev rfl) (by decide))) rfl fun U J => ?_
   refine x_v J (r_eqI rfl (J.ev rfl) (J.ev rfl)) rfl fun U J => ?_
   refine x_m J rfl fun U J => ?_
   refine wn (hK440 _ _ ?_)
   refine c_if J rfl (fun hb441 => ?_) fun hb441 => ?_
   ·replace G := ift hb441 G
    refine ws fun K442 hK442 => ?_
    refine x_m J rfl fun U J => ?_
    refine x_fab' fa36_3 J (fun U J => ?_) rfl
    refine x_ld' uu5 (X.cell 2 rfl 3 _ rfl) J (fun U J => ?_) rfl
    obtain ⟨x443, h444, G⟩ := ltt_ G
    refine x_v (v := .int .i64 x443) J (rv_i h444 (r_convI uu5 uu3 rfl (J.ev rfl))) rfl fun U J => ?_
    obtain ⟨x445, h446, G⟩ := ltt_ G
    refine x_v (v := .int .i64 x445) J (rv_i h446 (r_rem rfl (J.ev rfl) (J.ev rfl) (by decide))) rfl fun U J => ?_
    replace X := X.pk 4
    obtain ⟨y447, h448, G⟩ := bnd G
    refine x_call' en18 J (F_files_Store_Arm (L := blk g192 33 [.int .u64 x137, str s138, .slice A133 n134 c135] :: own k63 63 B188 m189 d190 y186 :: blk g180 36 [.int .u8 x165.f0, .slice A168 n169 c170, .slice A171 n172 c173, .int .u8 x165.f3, .slice A174 n175 c176] :: blk g120 33 [.int .u64 x137, str s138, .slice A133 n134 c135] :: zone Z131 wz132 :: L) o136 x445 p118 h448 X) (fun v U w hR J => ?_) rfl
    obtain ⟨rfl, X⟩ := hR
    refine wn (hK442 _ _ ?_)
    refine wp_exit ?_
    replace X := X.drop 1 |>.drop 1 |>.drop 1 |>.pk 2 |>.pk 1 |>.pk 2
    exact hb2 y447.2 x137 s138 l139 G Z131 wz132 A133 n134 c135 h141 h142 h143 U w (J.sub _ rfl) X
   replace G := iff' hb441 G
   refine ws fun K449 hK449 => ?_
   refine x_fab' fa36_0 J (fun U J => ?_) rfl
   refine x_ld' uu5 (X.cell 2 rfl 0 _ rfl) J (fun U J => ?_) rfl
   refine x_v (v := .int .u8 x393) J (rv_i h394 (r_rem rfl (J.ev rfl) (J.ev rfl) (by decide))) rfl fun U J => ?_
   refine x_v J (r_eqI rfl (J.ev rfl) (J.ev rfl)) rfl fun U J => ?_
   refine x_m J rfl fun U J => ?_
   refine wn (hK449 _ _ ?_)
   refine c_if J rfl (fun hb450 => ?_) fun hb450 => ?_
   ·replace G := ift hb450 G
    refine wp_reg ?_
    refine x_m J rfl fun U J => ?_
    refine wpList_nil ?_
    replace X := X.drop 1 |>.pk 4 |>.pk 4 |>.pk 2 |>.pk 3 |>.pk 4
    exact hb3 o136 x137 s138 l139 9 G Z131 wz132 A133 n134 c135 h141 h142 h143 h177 h178 h179 h143 U w (J.sub _ rfl) X
   replace G := iff' hb450 G
   refine wp_reg ?_
   refine x_m J rfl fun U J => ?_
   replace X := X.pk 5 |>.pk 5
   obtain ⟨y451, h452, G⟩ := bnd G
   refine x_call' en12 J (F_commit_Recover (L := blk g192 33 [.int .u64 x137, str s138, .slice A133 n134 c135] :: own k63 63 B188 m189 d190 y186 :: blk g180 36 [.int .u8 x165.f0, .slice A168 n169 c170, .slice A171 n172 c173, .int .u8 x165.f3, .slice A174 n175 c176] :: blk g120 33 [.int .u64 x137, str s138, .slice A133 n134 c135] :: L) o136 p118 h452 (Imm.sub hG0 h141) (Gc.sub hG1 h141) (Gc.sub hG2 h141) (Gc.sub hG3 h141) X) (fun v U w hR J => ?_) rfl
   obtain ⟨Z453, wz454, B455, m456, d457, B458, m459, d460, rfl, h461, X⟩ := hR
   have h462 := Imm.kind (d' := (kz36 Z453 wz454)) (Imm.sub h142 h461) rfl (kz36_sub h461)
   have h463 := Imm.sub h177 h461
   have h464 := Imm.sub h178 h461
   have h465 := Imm.sub h179 h461
   have h466 := Imm.sub h143 h461
   refine x_m J rfl fun U J => ?_
   refine x_v J (r_extract rfl (J.ev rfl) rfl) rfl fun U J => ?_
   refine x_v J (r_extract rfl (J.ev rfl) rfl) rfl fun U J => ?_
   refine x_v J (r_extract rfl (J.ev rfl) rfl) rfl fun U J => ?_
   refine x_v J (r_extract rfl (J.ev rfl) rfl) rfl fun U J => ?_
   refine x_m J rfl fun U J => ?_
   refine wpList_nil ?_
   replace X := X.drop 0 |>.drop 0 |>.drop 3 |>.pk 1 |>.pk 1 |>.pk 2 |>.pk 3 |>.pk 4
   exact hb3 y451.2.2.2.2 x137 s138 l139 y451.2.2.2.1 G Z453 wz454 A133 n134 c135 (Sub.trans h141 h461) h462 h466 h463 h464 h465 h466 U w (J.sub _ rfl) X
  replace G := iff' hb147 G
  refine wp_exit ?_
  replace X := X.drop 0 |>.drop 0
  cases G
  exact hx128_0 (T128_ _ rfl) Z131 wz132 h141 U w (J.sub _ rfl) X
 refine wp_reg ?_
 refine x_m J rfl fun U J => ?_
 refine x_m J rfl fun U J => ?_
 refine x_len' uu22 (X.imm 2 h142 rfl).2.1 J (fun U J => ?_) rfl
 refine x_v J (r_ltI rfl (J.ev rfl) (J.ev rfl)) rfl fun U J => ?_
 refine x_m J rfl fun U J => ?_
 refine bcase (b := decide (x140 < (a0.length : Int))) (fun hb467 => ?_) fun hb467 => ?_
 ·replace G := ift hb467 G
  refine x_on' hb467 J ?_ rfl
  refine x_m J rfl fun U J => ?_
  refine x_on' hb467 J ?_ rfl
  refine x_v J (r_ltI rfl (J.ev rfl) (J.ev rfl)) rfl fun U J => ?_
  refine x_pickt' hb467 J (fun U J => ?_) rfl
  refine wpList_nil ?_
  exact hj1 (decide (x140 < 30)) G U w (J.sub _ rfl) X
 replace G := iff' hb467 G
 refine xO 2 hb467 J rfl fun U J => ?_
 refine x_pickf' hb467 J (fun U J => ?_) rfl
 refine wpList_nil ?_
 exact hj1 false G U w (J.sub _ rfl) X
end Go.Proofs.YtffdckhgkhhbjaaGreatDoor.M
namespace Go.Proofs.YtffdckhgkhhbjaaGreatDoor.commitFalls
open Go Go.RowKit Go.ChangeShapes Go.WideShapes Go.ChangeAt Go.Proofs.YtffdckhgkhhbjaaGreatDoor.E Go.Proofs.YtffdckhgkhhbjaaGreatDoor.M
set_option linter.unusedVariables false
theorem own : ownKnob Tryz.prog.godebug = none := by kernel_rfl
theorem laidOut : laidOutB Tryz.prog = true := by kernel_rfl
theorem gN0 : Tryz.prog.globalNamed "headrace/page.table" = some 0 := by kernel_rfl
theorem gT0 : (Tryz.prog.globals[0]?).map (·.type) = some 138 := by kernel_rfl
theorem gN2 : Tryz.prog.globalNamed "strconv.ErrSyntax" = some 2 := by kernel_rfl
theorem gT2 : (Tryz.prog.globals[2]?).map (·.type) = some 99 := by kernel_rfl
theorem gN3 : Tryz.prog.globalNamed "strconv.ErrRange" = some 3 := by kernel_rfl
theorem gT3 : (Tryz.prog.globals[3]?).map (·.type) = some 99 := by kernel_rfl
theorem door_met (os : Os) (args : Array Value) : laidMetH Tryz.prog Rows.commitFallsRow.laid ((World.doorLaid Tryz.prog 400 os).forCall (fun _ _ => 0) ⟨#[], args, []⟩).memory :=
  laidMetH_of_parts3 (fuel := 8) (laidMet_of_run' 8 (by kernel_rfl) (by kernel_rfl)) (by kernel_rfl) (by kernel_rfl)
theorem of_laid0 {W : World} (h : laidMetH Tryz.prog Rows.commitFallsRow.laid W) : Imm (HeapZ W) W (kI .u32) (some ⟨0, 0, none⟩) 16 16 M.gl_page_table := by
  rw [MakeChecks.laidMetH_plain _ _ _ (by kernel_rfl)] at h
  replace h := h.filter (fun x => x.1 == "headrace/page.table")
  exact tab_imm gN0 gT0 Tryz.underlying138 Tryz.underlying47 ce47 rfl (by decide) h
theorem of_laid1 {W : World} (h : W.ShapedOpen Tryz.prog) : Gc (HeapZ W) W 1 isI64 := gc_i64 h (of_decide_eq_true (by kernel_rfl)) (zero := #[.int .i64 0]) (t := 3) (by kernel_rfl) rfl (by kernel_rfl) (by kernel_rfl) Tryz.underlying3
theorem of_laid2 {W : World} (h : laidMetH Tryz.prog Rows.commitFallsRow.laid W) : Gc (HeapZ W) W 2 isEr := by
  rw [MakeChecks.laidMetH_plain _ _ _ (by kernel_rfl)] at h
  exact gc_er (d := _) (nm := _) h (by simp [Rows.commitFallsRow, Rows.laid_strconv_ErrSyntax]; exact ⟨rfl, rfl⟩) gN2 gT2 Tryz.underlying99
theorem of_laid3 {W : World} (h : laidMetH Tryz.prog Rows.commitFallsRow.laid W) : Gc (HeapZ W) W 3 isEr := by
  rw [MakeChecks.laidMetH_plain _ _ _ (by kernel_rfl)] at h
  exact gc_er (d := _) (nm := _) h (by simp [Rows.commitFallsRow, Rows.laid_strconv_ErrRange]; exact ⟨rfl, rfl⟩) gN3 gT3 Tryz.underlying99
def Pure : Prop := ∀ (a0 : (List M.S36)) (a1 : Int), (gL 88 M.g36) a0 → (gI .u16) a1 → M.law18_CommitFalls a0 a1 = some true
set_option maxRecDepth 100000 in
theorem lifted (hP : Pure) (os : Os) (started : os.Started) (H : Type) (enc : TypeId × Value → H) :
    ReturnsInHanded {} Tryz.checked os 6 .any (fun w args => (Rows.commitFallsSpec.pre enc Tryz.prog Tryz.f6 [] false w args ∧ laidMetH Tryz.prog Rows.commitFallsRow.laid w) ∧ sizedMet enc Tryz.prog Tryz.f6 (OpenSpec.ofChange Rows.commitFallsSpec) false w args)
      (Rows.commitFallsSpec.post enc Tryz.prog Tryz.f6 false true false false) := by
  refine handed_shaped (C := Tryz.checked) (X := fun w _ => laidMetH Tryz.prog Rows.commitFallsRow.laid w) (fun _ _ _ hh h => h.of_heap hh) own started (by kernel_rfl) Tryz.func6
    (ChangeSpec.witness_shaped (enc := enc) (C := Tryz.checked) (os := os) (X := fun w _ => laidMetH Tryz.prog Rows.commitFallsRow.laid w) false (World.doorLaid Tryz.prog 400 os) #[.slice none 0 0, .int .u16 0] 8 rfl (World.shaped_of_RefB (by kernel_rfl) (by kernel_rfl)) (by kernel_rfl) (by kernel_rfl) (by kernel_rfl) (door_met os _)) ?_
  intro W base args ds gs before hval0 hW hsz0 hL hsh
  have hsz : (DataW.weightsEach Tryz.prog (Tryz.f6.params.toList ++ Rows.commitFallsSpec.plain.varTypes Tryz.prog) (ds ++ gs)).all (· ≤ reachBytes) = true := hsz0
  have hval : ∀ (j : Nat) t v, Tryz.f6.params[j]? = some t → args[j]? = some v → Value.okWide Tryz.prog W .any base t v := hval0
  have hW' := hW
  obtain ⟨p, q, hA0, hV, rfl, hfz, hnd⟩ := hW
  have hA : DataW.TrodAll enc Tryz.prog W 0 (fun _ => true) true Tryz.f6.params.toList args.toList ds p := hA0
  rw [Tryz.params6] at hA hval hsz
  obtain ⟨v0, vs0, d0, ds0, p0, q0, hargs, rfl, rfl, h0, r0⟩ := trodAll_cons hA
  obtain ⟨v1, vs1, d1, ds1, p1, q1, rfl, rfl, rfl, h1, r1⟩ := trodAll_cons r0
  obtain ⟨rfl, rfl, rfl⟩ := trodAll_nil r1
  obtain rfl : args = #[v0, v1] := by cases args; simp_all
  obtain ⟨rfl, rfl⟩ := trodVars_none hV
  have k0 := h0
  have lt0 : ∀ x ∈ p0, x.block < W.heap.size := by obtain ⟨m, hm⟩ := k0; exact DataW.trod_lt m _ _ _ hm
  obtain ⟨x0, hx0, g0⟩ := Opens.arg (opSl Tryz.underlying22 ce36 (Nat.succ_pos _) by36 op36) h0 (Wt.of hsz (j := 0) rfl rfl)
  obtain ⟨A0, n0, c0, rfl⟩ := okWide_slice Tryz.underlying22 (hval 0 22 v0 rfl rfl)
  obtain ⟨A0', n0', c0', he0, i0⟩ := hx0
  cases (show [Value.slice A0 n0 c0] = [Value.slice A0' n0' c0'] from he0)
  have k1 := h1
  have lt1 : ∀ x ∈ p1, x.block < W.heap.size := by obtain ⟨m, hm⟩ := k1; exact DataW.trod_lt m _ _ _ hm
  obtain ⟨x1, hx1, g1⟩ := Opens.arg (opI Tryz.underlying52) h1 (Wt.of hsz (j := 1) rfl rfl)
  obtain ⟨u1, rfl⟩ := okWide_int Tryz.underlying52 (hval 1 52 v1 rfl rfl)
  cases (show [Value.int .u16 u1] = [Value.int .u16 x1] from hx1)
  clear hA0 hval0 hsz0 hsz
  refine Calls.mono (M.F_law18_CommitFalls (Z := HeapZ W) (wz := W) x0 x1 A0 n0 c0 (hP x0 x1 g0 g1) i0 (of_laid0 hL) (of_laid1 hsh) (of_laid2 hL) (of_laid3 hL) (L := []) (SH.start W)) ?_
  rintro e W' ⟨v, rfl, Z', wz', rfl, hs, hS⟩
  have bel := SH.below hS hs
  exact ⟨_, rfl, _, _, _, [], _, [], hW', trodAll_mk1 (shut_bool Tryz.underlying4 _), (trodAll_cons_mk (Below.trod laidOut (by kernel_rfl) (of_decide_eq_true (by kernel_rfl)) k0 bel lt0) (trodAll_cons_mk (Below.trod laidOut (by kernel_rfl) (of_decide_eq_true (by kernel_rfl)) k1 bel lt1) trodAll_mk0)), rfl, bel.frame _, fun h => by cases h⟩
theorem over (hP : Pure) : Rows.commitFallsRow.holds Tryz.pinned (OpenSpec.ofChange Rows.commitFallsSpec) :=
  OpenClaim.holds_of_wide 6 Tryz.f6 rfl rfl rfl rfl rfl rfl rfl ⟨rfl, rfl, rfl, rfl, rfl⟩ rfl rfl rfl rfl rfl (by kernel_rfl) Tryz.func6 (by kernel_rfl)
    (of_decide_eq_true (by kernel_rfl)) (by unfold Func.isWrapper; first | (rw [if_pos (by decide +kernel)]; kernel_rfl) | (rw [if_neg (by decide +kernel)]; exact ⟨rfl, rfl⟩))
    (fun os started H enc _ => lifted hP os started H enc)
def hrn : Bool × String := Rows.commitFallsCard.stood.harness
theorem card (hP : Pure) : Rows.CommitFallsCardSaid :=
  Claim7.holds_tied_plain_at .later [] [.data, .data, .data, .data, .sentinel, .sentinel] true hrn true
    (over hP) (fun _ h => by cases h) (by kernel_rfl) (fun _ h => by cases h) commitFalls_row_tie rfl ⟨rfl, rfl⟩ (by kernel_rfl) rfl
    (fun f fn hf hfn => by
      obtain rfl : f = 6 := Option.some.inj ((show Tryz.prog.funcNamed "headrace/headracelaw18.CommitFalls" = some 6 by kernel_rfl).symm.trans hf) |>.symm
      obtain rfl : fn = Tryz.f6 := (Option.some.inj (Tryz.func6.symm.trans hfn)).symm
      exact ⟨by kernel_rfl, fun j t ht => by
        rw [Tryz.params6] at ht
        have hm : t ∈ [22, 52] := by simpa using Array.mem_of_getElem? ht
        have hall : ([22, 52].all fun u => !Tryz.prog.wantsStandIn u) = true := by kernel_rfl
        exact (show Tryz.prog.wantsStandIn t = false by simpa using List.all_eq_true.1 hall t hm)⟩)
    (by kernel_rfl)
end Go.Proofs.YtffdckhgkhhbjaaGreatDoor.commitFalls
namespace Go.Proofs.YtffdckhgkhhbjaaGreatDoor.P
open Go Go.RowKit Go.Proofs.YtffdckhgkhhbjaaGreatDoor.E Go.Proofs.YtffdckhgkhhbjaaGreatDoor.M
set_option linter.unusedVariables false
set_option linter.unusedSectionVars false
theorem at_nat {α : Type} (xs : List α) (n : Nat) : at_ xs (n : Int) = xs[n]? := by simp [at_]
theorem at_int {α : Type} {xs : List α} {i : Int} {n : Nat} {x : α} (hi : i = n) (h : xs[n]? = some x) : at_ xs i = some x := by subst hi; rw [at_nat, h]
theorem cut_nat {α : Type} {xs : List α} {l u : Nat} (h : l ≤ u) (hu : u ≤ xs.length) : cut_ xs (l : Int) (u : Int) = some ((xs.take u).drop l) := by
 unfold cut_; rw [if_pos (by omega)]; simp
theorem chk_pos {α : Type} {p : Prop} [Decidable p] {x : Option α} (h : p) : chk p x = x := if_pos h
theorem w64 {n : Int} (h : -9223372036854775808 ≤ n) (h' : n ≤ 9223372036854775807) : IntKind.i64.wrap n = n := IntWalk.i64_in n ⟨h, h'⟩
theorem u64w {n : Int} (h : 0 ≤ n) (h' : n < 18446744073709551616) : IntKind.u64.wrap n = n := IntWalk.u64_in n ⟨h, by omega⟩
theorem u8w {n : Int} (h : 0 ≤ n) (h' : n < 256) : IntKind.u8.wrap n = n := IntWalk.u8_in n ⟨h, by omega⟩
theorem lt_ {α β : Type} (e : α) (f : α → Option β) : ltt e f = f e := rfl
theorem loop_at {σ τ : Type} {b : σ → Option (σ ⊕ τ)} (f : Nat → σ) {t : τ} : ∀ (n : Nat) (i : Nat), (∀ k, i ≤ k → k < i + n → b (f k) = some (.inl (f (k + 1)))) → b (f (i + n)) = some (.inr t) → loop b (f i) = some t
 | 0, i, _, he => loop_end he
 | n + 1, i, hs, he => (loop_nxt (hs i (Nat.le_refl _) (by omega))).trans (loop_at f n (i + 1) (fun k h1 h2 => hs k (by omega) (by omega)) (by rw [show i + 1 + n = i + (n + 1) by omega]; exact he))
theorem loop_to {σ τ : Type} {b : σ → Option (σ ⊕ τ)} (f : Nat → σ) {t : τ} (n : Nat) (hs : ∀ k, k < n → b (f k) = some (.inl (f (k + 1)))) (he : b (f n) = some (.inr t)) : loop b (f 0) = some t :=
 loop_at f n 0 (fun k _ h => hs k (by omega)) (by simpa using he)
theorem ofInt_nat (n a : Nat) : BitVec.ofInt n (a : Int) = BitVec.ofNat n a := BitVec.ofInt_natCast n a
theorem u64_nat (a : Nat) : IntKind.u64.wrap (a : Int) = ((a % 18446744073709551616 : Nat) : Int) := by
 rw [IntKind.wrap_u64]; omega
theorem u8_nat (a : Nat) : IntKind.u8.wrap (a : Int) = ((a % 256 : Nat) : Int) := by rw [IntKind.wrap_u8]; omega
theorem iand_u64 {a b : Nat} (ha : a < 18446744073709551616) (hb : b < 18446744073709551616) : iand .u64 (a : Int) (b : Int) = ((a &&& b : Nat) : Int) := by
 unfold iand
 rw [ofInt_nat, ofInt_nat, u64_nat]
 have h : a &&& b < 18446744073709551616 := Nat.lt_of_le_of_lt Nat.and_le_left ha
 simp only [BitVec.toNat_and, BitVec.toNat_ofNat, show IntKind.u64.bits = 64 from rfl]
 rw [Nat.mod_eq_of_lt (show a < 2 ^ 64 by omega), Nat.mod_eq_of_lt (show b < 2 ^ 64 by omega), Nat.mod_eq_of_lt h]
theorem iand_u8 {a b : Nat} (ha : a < 256) (hb : b < 256) : iand .u8 (a : Int) (b : Int) = ((a &&& b : Nat) : Int) := by
 unfold iand
 rw [ofInt_nat, ofInt_nat, u8_nat]
 have h : a &&& b < 256 := Nat.lt_of_le_of_lt Nat.and_le_left ha
 simp only [BitVec.toNat_and, BitVec.toNat_ofNat, show IntKind.u8.bits = 8 from rfl]
 rw [Nat.mod_eq_of_lt (show a < 2 ^ 8 by omega), Nat.mod_eq_of_lt (show b < 2 ^ 8 by omega), Nat.mod_eq_of_lt h]
theorem ior_u64 {a b : Nat} (ha : a < 18446744073709551616) (hb : b < 18446744073709551616) : ior .u64 (a : Int) (b : Int) = ((a ||| b : Nat) : Int) := by
 unfold ior
 rw [ofInt_nat, ofInt_nat, u64_nat]
 have h : a ||| b < 2 ^ 64 := Nat.or_lt_two_pow (show a < 2 ^ 64 by omega) (show b < 2 ^ 64 by omega)
 simp only [BitVec.toNat_or, BitVec.toNat_ofNat, show IntKind.u64.bits = 64 from rfl]
 rw [Nat.mod_eq_of_lt (show a < 2 ^ 64 by omega), Nat.mod_eq_of_lt (show b < 2 ^ 64 by omega), Nat.mod_eq_of_lt (show a ||| b < 18446744073709551616 from h)]
theorem ior_u8 {a b : Nat} (ha : a < 256) (hb : b < 256) : ior .u8 (a : Int) (b : Int) = ((a ||| b : Nat) : Int) := by
 unfold ior
 rw [ofInt_nat, ofInt_nat, u8_nat]
 have h : a ||| b < 2 ^ 8 := Nat.or_lt_two_pow (show a < 2 ^ 8 by omega) (show b < 2 ^ 8 by omega)
 simp only [BitVec.toNat_or, BitVec.toNat_ofNat, show IntKind.u8.bits = 8 from rfl]
 rw [Nat.mod_eq_of_lt (show a < 2 ^ 8 by omega), Nat.mod_eq_of_lt (show b < 2 ^ 8 by omega), Nat.mod_eq_of_lt (show a ||| b < 256 from h)]
theorem ixor_u64 {a b : Nat} (ha : a < 18446744073709551616) (hb : b < 18446744073709551616) : ixor .u64 (a : Int) (b : Int) = ((a ^^^ b : Nat) : Int) := by
 unfold ixor
 rw [ofInt_nat, ofInt_nat, u64_nat]
 have h : a ^^^ b < 2 ^ 64 := Nat.xor_lt_two_pow (show a < 2 ^ 64 by omega) (show b < 2 ^ 64 by omega)
 simp only [BitVec.toNat_xor, BitVec.toNat_ofNat, show IntKind.u64.bits = 64 from rfl]
 rw [Nat.mod_eq_of_lt (show a < 2 ^ 64 by omega), Nat.mod_eq_of_lt (show b < 2 ^ 64 by omega), Nat.mod_eq_of_lt (show a ^^^ b < 18446744073709551616 from h)]
theorem two_pow (n : Nat) : (2 : Int) ^ n = ((2 ^ n : Nat) : Int) := (Int.natCast_pow 2 n).symm
theorem ishr_nat {k : IntKind} (a n : Nat) (h : n ≤ k.bits) : ishr k (a : Int) (n : Int) = ((a / 2 ^ n : Nat) : Int) := by
 unfold ishr
 rw [Int.toNat_natCast, Nat.min_eq_left h, two_pow, Int.fdiv_eq_ediv_of_nonneg _ (Int.natCast_nonneg _)]
 rfl
theorem ishl_u64 (a n : Nat) (h : n ≤ 64) : ishl .u64 (a : Int) (n : Int) = ((a * 2 ^ n % 18446744073709551616 : Nat) : Int) := by
 unfold ishl
 rw [Int.toNat_natCast, show min n IntKind.u64.bits = n from Nat.min_eq_left h, two_pow, ← Int.natCast_mul, u64_nat]
theorem or_top {a n : Nat} (h : a < 2 ^ n) (b : Nat) : a ||| (b * 2 ^ n) = a + b * 2 ^ n := by
 rw [Nat.or_comm, Nat.mul_comm, ← Nat.two_pow_add_eq_or_of_lt h, Nat.add_comm]
end Go.Proofs.YtffdckhgkhhbjaaGreatDoor.P
