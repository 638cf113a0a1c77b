/- Texts of the claim, joined: what it uses of Mpg, Dpl, Mpl, Dce2, Mce2, Dcr2, Mcr2, Drf, Mrf, Dpo, Mpo, Dag, Mag, Tr, Dld, Mld, Dfa. -/
import Derived.Test.YtffdckhgkhhbjaaGreatDoorZb
namespace Go.Proofs.YtffdckhgkhhbjaaGreatDoor.M
open Go Go.RowKit Go.Proofs.YtffdckhgkhhbjaaGreatDoor.E
set_option linter.unusedVariables false
set_option maxRecDepth 100000
set_option maxHeartbeats 4000000
set_option linter.unusedSimpArgs false
theorem F_page_Sum {r : World} {L : List HP} {w : World} {Z : Nat → Prop} {wz : World} (a0 : (List Int)) (A0 : Option Addr) (n0 : Nat) (c0 : Nat) {y : (Int)} (G : page_Sum a0 = some y) (qz : Nat) (hZ : L[qz]? = some (zone Z wz)) (ha0 : RdL L (kI .u8) A0 n0 c0 a0) (hG0 : Imm Z wz (kI .u32) (some ⟨0, 0, none⟩) 16 16 gl_page_table) (X : SH r (L) w) :
  Ret Tryz.prog 71 #[.slice A0 n0 c0] w fun v w' => v = .int .u32 y ∧ SH r (L) w' := by
 refine enter Tryz.func71 rfl Tryz.ntmps71 [(0, .slice A0 n0 c0)] rfl (by simp) ?_
 intro U J Qf hQ hQn
 unfold page_Sum at G
 refine ws fun K100 hK100 => ?_
 refine x_m J rfl fun U J => ?_
 refine wn (hK100 _ _ ?_)
 refine ws fun K101 hK101 => ?_
 refine x_m J rfl fun U J => ?_
 refine wn (hK101 _ _ ?_)
 refine wp_seq_k fun K102 hK102 => ?_
 refine ws fun K103 hK103 => ?_
 refine x_m J rfl fun U J => ?_
 refine x_len' uu29 (X.rdl 0 ha0 rfl).2.1 J (fun U J => ?_) rfl
 refine x_m J rfl fun U J => ?_
 refine wn (hK103 _ _ ?_)
 refine wp_block_k fun Kx104 hKx104 => ?_
 have hb1 : ∀ (x105 : Int), page_Sum_b1 x105 = some y → ∀ (U : Act) (w : World), FR 36 [] U [(3, .int .u32 x105)] → SH r (L) w → Kx104 U w := by
  intro x105 G U w J X
  unfold page_Sum_b1 at G
  refine hKx104 _ _ ?_
  refine hK102 _ _ ?_
  refine ws fun K106 hK106 => ?_
  refine x_m J rfl fun U J => ?_
  refine x_v J (r_compl rfl (J.ev rfl)) rfl fun U J => ?_
  refine x_m J rfl fun U J => ?_
  refine wn (hK106 _ _ ?_)
  refine wp_ret ?_
  cases G
  refine hQ _ _ ?_
  refine lv Tryz.results71 J rfl ?_
  exact ⟨rfl, X⟩
 obtain ⟨t107, hl107, G⟩ := bnd G
 have hx107_0 : ∀ (x107 : Int), (x107) = t107 → ∀ (U : Act) (w : World), FR 36 [] U [(3, .int .u32 x107)] → SH r (L) w → Kx104 U w := by
  intro x107 ht U w J X
  subst ht
  replace G : page_Sum_x1_0 x107 = some y := G
  unfold page_Sum_x1_0 at G
  exact hb1 x107 G U w (J.sub _ rfl) X
 refine wp_loop_fn hl107 (fun s U w => FR 36 [] U [(3, .int .u32 s.1), (6, .slice A0 n0 c0), (7, .int .i64 (a0.length : Int)), (8, .int .i64 s.2)] ∧ SH r (L) w) ⟨J.sub _ rfl, X⟩ ?_
 intro N107 s107 o107 G N107_ T107_ U w hLab
 obtain ⟨x108, x109⟩ := s107
 replace G : page_Sum_l1 a0 x108 x109 = some o107 := G
 unfold page_Sum_l1 at G
 try dsimp only at hLab
 obtain ⟨J, X⟩ := hLab
 refine ws fun K110 hK110 => ?_
 refine x_v J (r_ltI rfl (J.ev rfl) (J.ev rfl)) rfl fun U J => ?_
 refine wn (hK110 _ _ ?_)
 refine wp_seq_k fun K111 hK111 => ?_
 refine c_if J rfl (fun hb112 => ?_) fun hb112 => ?_
 ·replace G := ift hb112 G
  refine wp_skip ?_
  refine hK111 _ _ ?_
  refine wp_seq_k fun K113 hK113 => ?_
  refine wp_block_k fun Kx114 hKx114 => ?_
  refine ws fun K115 hK115 => ?_
  obtain ⟨x116, h117, G⟩ := bnd G
  refine x_ia' uu29 sz5 (X.rdl 0 ha0 rfl) h117 J (fun U J => ?_) rfl
  obtain ⟨cs, hV, hc118⟩ := el (X.rdl 0 ha0 rfl) h117
  obtain rfl := hV
  refine x_ld' uu5 (hc118 0 _ rfl) J (fun U J => ?_) rfl
  refine x_m J rfl fun U J => ?_
  refine wn (hK115 _ _ ?_)
  refine ws fun K119 hK119 => ?_
  refine x_m J rfl fun U J => ?_
  refine x_m J rfl fun U J => ?_
  obtain ⟨x120, h121, G⟩ := ltt_ G
  refine x_v (v := .int .u32 x120) J (rv_i h121 (r_convI uu5 uu47 rfl (J.ev rfl))) rfl fun U J => ?_
  obtain ⟨x122, h123, G⟩ := ltt_ G
  refine x_v (v := .int .u32 x122) J (rv_i h123 (r_xor rfl (J.ev rfl) (J.ev rfl))) rfl fun U J => ?_
  obtain ⟨x124, h125, G⟩ := ltt_ G
  refine x_v (v := .int .u32 x124) J (rv_i h125 (r_and rfl (J.ev rfl) (J.ev rfl))) rfl fun U J => ?_
  obtain ⟨x126, h127, G⟩ := bnd G
  refine x_iaA' uu138 sz47 (X.rdl 0 (hG0.rdl qz hZ) rfl) h127 J (fun U J => ?_) rfl
  obtain ⟨cs, hV, hc128⟩ := el (X.rdl 0 (hG0.rdl qz hZ) rfl) h127
  obtain rfl := hV
  refine x_ld' uu47 (hc128 0 _ rfl) J (fun U J => ?_) rfl
  refine x_m J rfl fun U J => ?_
  obtain ⟨x129, h130, G⟩ := ltt_ G
  refine x_v (v := .int .u32 x129) J (rv_i h130 (r_shr rfl (J.ev rfl) (J.ev rfl) (by decide))) rfl fun U J => ?_
  obtain ⟨x131, h132, G⟩ := ltt_ G
  refine x_v (v := .int .u32 x131) J (rv_i h132 (r_xor rfl (J.ev rfl) (J.ev rfl))) rfl fun U J => ?_
  refine x_m J rfl fun U J => ?_
  refine wn (hK119 _ _ ?_)
  refine wp_reg ?_
  refine x_m J rfl fun U J => ?_
  refine x_m J rfl fun U J => ?_
  refine x_v (v := .int .u32 x120) J (rv_i h121 (r_convI uu5 uu47 rfl (J.ev rfl))) rfl fun U J => ?_
  obtain ⟨x133, h134, G⟩ := ltt_ G
  refine x_v (v := .int .u32 x133) J (rv_i h134 (r_shr rfl (J.ev rfl) (J.ev rfl) (by decide))) rfl fun U J => ?_
  obtain ⟨x135, h136, G⟩ := ltt_ G
  refine x_v (v := .int .u32 x135) J (rv_i h136 (r_xor rfl (J.ev rfl) (J.ev rfl))) rfl fun U J => ?_
  obtain ⟨x137, h138, G⟩ := ltt_ G
  refine x_v (v := .int .u32 x137) J (rv_i h138 (r_and rfl (J.ev rfl) (J.ev rfl))) rfl fun U J => ?_
  obtain ⟨x139, h140, G⟩ := bnd G
  refine x_iaA' uu138 sz47 (X.rdl 0 (hG0.rdl qz hZ) rfl) h140 J (fun U J => ?_) rfl
  obtain ⟨cs, hV, hc141⟩ := el (X.rdl 0 (hG0.rdl qz hZ) rfl) h140
  obtain rfl := hV
  refine x_ld' uu47 (hc141 0 _ rfl) J (fun U J => ?_) rfl
  refine x_m J rfl fun U J => ?_
  obtain ⟨x142, h143, G⟩ := ltt_ G
  refine x_v (v := .int .u32 x142) J (rv_i h143 (r_shr rfl (J.ev rfl) (J.ev rfl) (by decide))) rfl fun U J => ?_
  obtain ⟨x144, h145, G⟩ := ltt_ G
  refine x_v (v := .int .u32 x144) J (rv_i h145 (r_xor rfl (J.ev rfl) (J.ev rfl))) rfl fun U J => ?_
  refine x_m J rfl fun U J => ?_
  refine wpList_nil ?_
  refine hKx114 _ _ ?_
  refine hK113 _ _ ?_
  refine wp_reg ?_
  obtain ⟨x146, h147, G⟩ := ltt_ G
  refine x_v (v := .int .i64 x146) J (rv_i h147 (r_add rfl (J.ev rfl) (J.ev rfl))) rfl fun U J => ?_
  refine x_m J rfl fun U J => ?_
  refine wpList_nil ?_
  cases G
  exact ⟨_, N107_ _ rfl, J.sub _ rfl, X⟩
 replace G := iff' hb112 G
 refine wp_exit ?_
 cases G
 exact hx107_0 x108 (T107_ _ rfl) U w (J.sub _ rfl) X
theorem F_page_number {r : World} {L : List HP} {w : World} (a0 : (List Int)) (A0 : Option Addr) (n0 : Nat) (c0 : Nat) {y : (Int)} (G : page_number a0 = some y) (ha0 : RdL L (kI .u8) A0 n0 c0 a0) (X : SH r (L) w) :
  Ret Tryz.prog 77 #[.slice A0 n0 c0] w fun v w' => v = .int .u32 y ∧ SH r (L) w' := by
 refine enter Tryz.func77 rfl Tryz.ntmps77 [(0, .slice A0 n0 c0)] rfl (by simp) ?_
 intro U J Qf hQ hQn
 unfold page_number at G
 refine ws fun K100 hK100 => ?_
 refine x_m J rfl fun U J => ?_
 refine wn (hK100 _ _ ?_)
 refine wp_seq_k fun K101 hK101 => ?_
 refine wp_draw [0, 1, 3, 7, 0, 16, 48, 112, 240, 511, 0, 1024, 3072, 7168, 15360, 32767, 0, 65536, 196608, 458752, 983040, 2097151, 4194303] [] rfl J X (by kernel_rfl) (by kernel_rfl) (by kernel_rfl) (by kernel_rfl) fun w X => ?_
 obtain ⟨x102, h103, G⟩ := bnd G
 obtain ⟨cs, hV, hc104⟩ := el (X.rdl 0 ha0 rfl) h103
 obtain rfl := hV
 obtain ⟨x105, h106, G⟩ := ltt_ G
 obtain ⟨x107, h108, G⟩ := bnd G
 obtain ⟨cs, hV, hc109⟩ := el (X.rdl 0 ha0 rfl) h108
 obtain rfl := hV
 obtain ⟨x110, h111, G⟩ := ltt_ G
 obtain ⟨x112, h113, G⟩ := ltt_ G
 obtain ⟨x114, h115, G⟩ := ltt_ G
 obtain ⟨x116, h117, G⟩ := bnd G
 obtain ⟨cs, hV, hc118⟩ := el (X.rdl 0 ha0 rfl) h117
 obtain rfl := hV
 obtain ⟨x119, h120, G⟩ := ltt_ G
 obtain ⟨x121, h122, G⟩ := ltt_ G
 obtain ⟨x123, h124, G⟩ := ltt_ G
 obtain ⟨x125, h126, G⟩ := bnd G
 obtain ⟨cs, hV, hc127⟩ := el (X.rdl 0 ha0 rfl) h126
 obtain rfl := hV
 obtain ⟨x128, h129, G⟩ := ltt_ G
 obtain ⟨x130, h131, G⟩ := ltt_ G
 obtain ⟨x132, h133, G⟩ := ltt_ G
 refine ⟨[(0, .slice A0 n0 c0), (1, .pointer (some (ea A0 ((0 : Int).toNat * 1)))), (2, .int .u8 x102), (3, .int .u32 x105), (4, .slice A0 n0 c0), (5, .pointer (some (ea A0 ((1 : Int).toNat * 1)))), (6, .int .u8 x107), (7, .int .u32 x110), (8, .int .u32 x112), (9, .int .u32 x114), (10, .slice A0 n0 c0), (11, .pointer (some (ea A0 ((2 : Int).toNat * 1)))), (12, .int .u8 x116), (13, .int .u32 x119), (14, .int .u32 x121), (15, .int .u32 x123), (16, .slice A0 n0 c0), (17, .pointer (some (ea A0 ((3 : Int).toNat * 1)))), (18, .int .u8 x125), (19, .int .u32 x128), (20, .int .u32 x130), (21, .int .u32 x132), (22, .int .u32 x132)], ?_⟩
 refine dEnd [0, 1, 2, 3, 4, 5, 6, 7, 8, 9, 10, 11, 12, 13, 14, 15, 16, 17, 18, 19, 20, 21, 22] (by kernel_rfl) ⟨pm rfl, pt [(3, .slice A0 n0 c0)] rfl (fun U J => y_ia uu29 sz5 (X.rdl 0 ha0 rfl) h103 J rfl rfl rfl), pt [(4, .pointer (some (ea A0 ((0 : Int).toNat * 1))))] rfl (fun U J => y_ld uu5 (hc104 0 _ rfl) J rfl rfl rfl), pt [(5, .int .u8 x102)] rfl (fun U J => (rv_i h106 (r_convI uu5 uu47 rfl (J.ev rfl)) : RunV _ _ _ _ (.int .u32 x105))), pm rfl, pt [(7, .slice A0 n0 c0)] rfl (fun U J => y_ia uu29 sz5 (X.rdl 0 ha0 rfl) h108 J rfl rfl rfl), pt [(8, .pointer (some (ea A0 ((1 : Int).toNat * 1))))] rfl (fun U J => y_ld uu5 (hc109 0 _ rfl) J rfl rfl rfl), pt [(9, .int .u8 x107)] rfl (fun U J => (rv_i h111 (r_convI uu5 uu47 rfl (J.ev rfl)) : RunV _ _ _ _ (.int .u32 x110))), pt [(10, .int .u32 x110)] rfl (fun U J => (rv_i h113 (r_shl rfl (J.ev rfl) (J.ev rfl) (by decide)) : RunV _ _ _ _ (.int .u32 x112))), pt [(6, .int .u32 x105), (11, .int .u32 x112)] rfl (fun U J => (rv_i h115 (r_or rfl (J.ev rfl) (J.ev rfl)) : RunV _ _ _ _ (.int .u32 x114))), pm rfl, pt [(13, .slice A0 n0 c0)] rfl (fun U J => y_ia uu29 sz5 (X.rdl 0 ha0 rfl) h117 J rfl rfl rfl), pt [(14, .pointer (some (ea A0 ((2 : Int).toNat * 1))))] rfl (fun U J => y_ld uu5 (hc118 0 _ rfl) J rfl rfl rfl), pt [(15, .int .u8 x116)] rfl (fun U J => (rv_i h120 (r_convI uu5 uu47 rfl (J.ev rfl)) : RunV _ _ _ _ (.int .u32 x119))), pt [(16, .int .u32 x119)] rfl (fun U J => (rv_i h122 (r_shl rfl (J.ev rfl) (J.ev rfl) (by decide)) : RunV _ _ _ _ (.int .u32 x121))), pt [(12, .int .u32 x114), (17, .int .u32 x121)] rfl (fun U J => (rv_i h124 (r_or rfl (J.ev rfl) (J.ev rfl)) : RunV _ _ _ _ (.int .u32 x123))), pm rfl, pt [(19, .slice A0 n0 c0)] rfl (fun U J => y_ia uu29 sz5 (X.rdl 0 ha0 rfl) h126 J rfl rfl rfl), pt [(20, .pointer (some (ea A0 ((3 : Int).toNat * 1))))] rfl (fun U J => y_ld uu5 (hc127 0 _ rfl) J rfl rfl rfl), pt [(21, .int .u8 x125)] rfl (fun U J => (rv_i h129 (r_convI uu5 uu47 rfl (J.ev rfl)) : RunV _ _ _ _ (.int .u32 x128))), pt [(22, .int .u32 x128)] rfl (fun U J => (rv_i h131 (r_shl rfl (J.ev rfl) (J.ev rfl) (by decide)) : RunV _ _ _ _ (.int .u32 x130))), pt [(18, .int .u32 x123), (23, .int .u32 x130)] rfl (fun U J => (rv_i h133 (r_or rfl (J.ev rfl) (J.ev rfl)) : RunV _ _ _ _ (.int .u32 x132))), pm rfl, trivial⟩ ⟨by kernel_rfl, by kernel_rfl⟩ [(2, .int .u32 x132)] rfl (fun U J => ?_)
 refine hK101 _ _ ?_
 refine wp_ret ?_
 cases G
 refine hQ _ _ ?_
 refine lv Tryz.results77 J rfl ?_
 exact ⟨rfl, X⟩
theorem F_slices_Clone_byte_byte {r : World} {L : List HP} {w : World} (a0 : (List Int)) (A0 : Option Addr) (n0 : Nat) (c0 : Nat) {y : ((List Int))} (G : slices_Clone_byte_byte a0 = some y) (ha0 : RdL L (kI .u8) A0 n0 c0 a0) (X : SH r (L) w) :
  Ret Tryz.prog 35 #[.slice A0 n0 c0] w fun v w' => ∃ (B0 : Option Addr) (m0 : Nat) (d0 : Nat), v = .slice B0 m0 d0 ∧ SH r (own (kI .u8) 5 B0 m0 d0 y :: L) w' := by
 refine enter Tryz.func35 rfl Tryz.ntmps35 [(0, .slice A0 n0 c0)] rfl (by simp) ?_
 intro U J Qf hQ hQn
 unfold slices_Clone_byte_byte at G
 refine ws fun K100 hK100 => ?_
 refine x_m J rfl fun U J => ?_
 refine wn (hK100 _ _ ?_)
 refine wp_seq_k fun K101 hK101 => ?_
 refine ws fun K102 hK102 => ?_
 refine x_m J rfl fun U J => ?_
 rcases A0 with _ | ad104
 ·replace G := nil_l (RdL.none_nil ha0 (X.sfx 0)) G
  refine x_v (v := .bool true) J (r_eqNilS (p := none) uu29 rfl (J.ev rfl) (J.ev rfl)) rfl fun U J => ?_
  refine wn (hK102 _ _ ?_)
  refine c_t (b := true) rfl J ?_ rfl
  refine ws fun K103 hK103 => ?_
  refine x_m J rfl fun U J => ?_
  refine wn (hK103 _ _ ?_)
  refine wp_ret ?_
  replace X := SH.nil_own (d := (kI .u8)) (e := 5) X
  cases G
  refine hQ _ _ ?_
  refine lv Tryz.results35 J rfl ?_
  exact ⟨none, 0, 0, rfl, X⟩
 replace G := nil_r G
 refine x_v (v := .bool false) J (r_eqNilS (p := some ad104) uu29 rfl (J.ev rfl) (J.ev rfl)) rfl fun U J => ?_
 refine wn (hK102 _ _ ?_)
 refine c_f (b := false) rfl J ?_ rfl
 refine wp_skip ?_
 refine hK101 _ _ ?_
 refine ws fun K104 hK104 => ?_
 refine x_bsl' (d := (kI .u8)) (e := 5) (ps := #[]) (cells := []) (xs := []) (fun w => by kernel_rfl) rfl rfl J X (fun g105 U w X J => ?_) rfl
 refine x_m J rfl fun U J => ?_
 obtain ⟨h106, G⟩ := chk_some G
 have hr := X.rdl 1 ha0 rfl
 refine x_app' 0 inf5 uu29 J X hr.1 hr.2.1 h106 rfl (fun A107 n108 c109 U w X J => ?_) rfl
 rw [List.nil_append] at X
 refine x_m J rfl fun U J => ?_
 refine wn (hK104 _ _ ?_)
 refine wp_ret ?_
 cases G
 refine hQ _ _ ?_
 refine lv Tryz.results35 J rfl ?_
 exact ⟨A107, n108, c109, rfl, X⟩
theorem F_page_Read {r : World} {L : List HP} {w : World} {Z : Nat → Prop} {wz : World} (a0 : (List Int)) (a1 : Int) (A0 : Option Addr) (n0 : Nat) (c0 : Nat) {y : (Int × (List Int) × Int × Int)} (G : page_Read a0 a1 = some y) (qz : Nat) (hZ : L[qz]? = some (zone Z wz)) (ha0 : Imm Z wz (kI .u8) A0 n0 c0 a0) (hG0 : Imm Z wz (kI .u32) (some ⟨0, 0, none⟩) 16 16 gl_page_table) (X : SH r (L) w) :
  Ret Tryz.prog 61 #[.slice A0 n0 c0, .int .i64 a1] w fun v w' => ∃ (B1 : Option Addr) (m1 : Nat) (d1 : Nat), v = .tuple #[(.int .u8 y.1), (.slice B1 m1 d1), (.int .i64 y.2.2.1), (.int .i64 y.2.2.2)] ∧ SH r (own (kI .u8) 5 B1 m1 d1 y.2.1 :: L) w' := by
 refine enter Tryz.func61 rfl Tryz.ntmps61 [(0, .slice A0 n0 c0), (1, .int .i64 a1)] rfl (by simp) ?_
 intro U J Qf hQ hQn
 unfold page_Read at G
 refine ws fun K100 hK100 => ?_
 refine x_m J rfl fun U J => ?_
 refine x_m J rfl fun U J => ?_
 refine x_m J rfl fun U J => ?_
 refine x_m J rfl fun U J => ?_
 refine wn (hK100 _ _ ?_)
 refine wp_seq_k fun K101 hK101 => ?_
 refine wp_seq_k fun K102 hK102 => ?_
 have hj1 : ∀ (b103 : Bool), page_Read_j1 a0 a1 b103 = some y → ∀ (U : Act) (w : World), FR 60 [] U [(0, .slice A0 n0 c0), (1, .int .i64 a1), (18, .bool b103)] → SH r (L) w → K102 U w := by
  intro b103 G U w J X
  unfold page_Read_j1 at G
  refine hK102 _ _ ?_
  refine c_if J rfl (fun hb104 => ?_) fun hb104 => ?_
  ·replace G := ift hb104 G
   refine ws fun K105 hK105 => ?_
   refine x_m J rfl fun U J => ?_
   refine x_m J rfl fun U J => ?_
   refine x_m J rfl fun U J => ?_
   refine x_m J rfl fun U J => ?_
   refine wn (hK105 _ _ ?_)
   refine wp_ret ?_
   replace X := SH.nil_own (d := (kI .u8)) (e := 5) X
   cases G
   refine hQ _ _ ?_
   refine lv4 Tryz.results61 J rfl rfl rfl rfl ?_
   exact ⟨none, 0, 0, rfl, X⟩
  replace G := iff' hb104 G
  refine wp_skip ?_
  refine hK101 _ _ ?_
  refine ws fun K106 hK106 => ?_
  refine x_m J rfl fun U J => ?_
  refine x_m J rfl fun U J => ?_
  obtain ⟨l107, h108, G⟩ := bnd G
  obtain ⟨A109, n110, c111, e112, h113⟩ := imm_lc ha0 h108
  refine x_v (v := .slice A109 n110 c111) J (rv_e e112 (r_slice_l uu29 sz5 rfl (J.ev rfl) (J.ev rfl) (cutq (X.rdl 0 (ha0.rdl qz hZ) rfl) h108).1 (cutq (X.rdl 0 (ha0.rdl qz hZ) rfl) h108).2.2.2.2.2)) rfl fun U J => ?_
  refine x_m J rfl fun U J => ?_
  refine wn (hK106 _ _ ?_)
  refine wp_seq_k fun K114 hK114 => ?_
  refine ws fun K115 hK115 => ?_
  refine x_m J rfl fun U J => ?_
  refine x_len' uu29 (X.rdl 0 (h113.rdl qz hZ) rfl).2.1 J (fun U J => ?_) rfl
  refine x_v J (r_ltI rfl (J.ev rfl) (J.ev rfl)) rfl fun U J => ?_
  refine wn (hK115 _ _ ?_)
  refine c_if J rfl (fun hb116 => ?_) fun hb116 => ?_
  ·replace G := ift hb116 G
   refine ws fun K117 hK117 => ?_
   refine x_m J rfl fun U J => ?_
   refine x_m J rfl fun U J => ?_
   refine x_m J rfl fun U J => ?_
   refine x_m J rfl fun U J => ?_
   refine wn (hK117 _ _ ?_)
   refine wp_ret ?_
   replace X := SH.nil_own (d := (kI .u8)) (e := 5) X
   cases G
   refine hQ _ _ ?_
   refine lv4 Tryz.results61 J rfl rfl rfl rfl ?_
   exact ⟨none, 0, 0, rfl, X⟩
  replace G := iff' hb116 G
  refine wp_skip ?_
  refine hK114 _ _ ?_
  refine ws fun K118 hK118 => ?_
  refine x_m J rfl fun U J => ?_
  obtain ⟨y119, h120, G⟩ := bnd G
  refine x_call' en77 J (F_page_number (L := L) l107 A109 n110 c111 h120 (RdL.sfx 0 rfl (h113.rdl qz hZ)) X) (fun v U w hR J => ?_) rfl
  obtain ⟨rfl, X⟩ := hR
  refine x_m J rfl fun U J => ?_
  refine wn (hK118 _ _ ?_)
  refine wp_seq_k fun K121 hK121 => ?_
  refine wp_seq_k fun K122 hK122 => ?_
  have hj2 : ∀ (b123 : Bool), page_Read_j2 a1 l107 y119 b123 = some y → ∀ (U : Act) (w : World), FR 60 [] U [(1, .int .i64 a1), (8, .slice A109 n110 c111), (9, .int .u32 y119), (36, .bool b123)] → SH r (L) w → K122 U w := by
   intro b123 G U w J X
   unfold page_Read_j2 at G
   refine hK122 _ _ ?_
   refine c_if J rfl (fun hb124 => ?_) fun hb124 => ?_
   ·replace G := ift hb124 G
    refine ws fun K125 hK125 => ?_
    refine x_m J rfl fun U J => ?_
    refine x_m J rfl fun U J => ?_
    refine x_m J rfl fun U J => ?_
    refine x_m J rfl fun U J => ?_
    refine wn (hK125 _ _ ?_)
    refine wp_ret ?_
    replace X := SH.nil_own (d := (kI .u8)) (e := 5) X
    cases G
    refine hQ _ _ ?_
    refine lv4 Tryz.results61 J rfl rfl rfl rfl ?_
    exact ⟨none, 0, 0, rfl, X⟩
   replace G := iff' hb124 G
   refine wp_skip ?_
   refine hK121 _ _ ?_
   refine ws fun K126 hK126 => ?_
   refine x_m J rfl fun U J => ?_
   obtain ⟨x127, h128, G⟩ := ltt_ G
   refine x_v (v := .int .i64 x127) J (rv_i h128 (r_convI uu47 uu3 rfl (J.ev rfl))) rfl fun U J => ?_
   obtain ⟨x129, h130, G⟩ := ltt_ G
   refine x_v (v := .int .i64 x129) J (rv_i h130 (r_add rfl (J.ev rfl) (J.ev rfl))) rfl fun U J => ?_
   refine x_m J rfl fun U J => ?_
   refine wn (hK126 _ _ ?_)
   refine wp_seq_k fun K131 hK131 => ?_
   refine wp_seq_k fun K132 hK132 => ?_
   refine wp_draw [0, 0, 3, 7, 0, 0, 48, 127, 255] [3, 7] rfl J X (by kernel_rfl) (by kernel_rfl) (by kernel_rfl) (by kernel_rfl) fun w X => ?_
   obtain ⟨l133, h134, G⟩ := bnd G
   obtain ⟨A135, n136, c137, e138, h139⟩ := imm_hc h113 h134
   obtain ⟨l140, h141, G⟩ := bnd G
   obtain ⟨A142, n143, c144, e145, h146⟩ := imm_lc h113 h141
   refine ⟨[(0, .slice A109 n110 c111), (1, .int .i64 x129), (2, .slice A135 n136 c137), (4, .slice A109 n110 c111), (5, .int .i64 x129), (6, .slice A142 n143 c144)], ?_⟩
   refine dF [0, 1, 2, 4, 5, 6] [3] (by kernel_rfl) ⟨pm rfl, pm rfl, pt [(40, .slice A109 n110 c111), (41, .int .i64 x129)] rfl (fun U J => (rv_e e138 (r_slice_h uu29 sz5 rfl (J.ev rfl) (J.ev rfl) (cutq (X.rdl 0 (h113.rdl qz hZ) rfl) h134).2.2.2.2.1 (cutq (X.rdl 0 (h113.rdl qz hZ) rfl) h134).2.2.1) : RunV _ _ _ _ (.slice A135 n136 c137))), pm rfl, pm rfl, pt [(44, .slice A109 n110 c111), (45, .int .i64 x129)] rfl (fun U J => (rv_e e145 (r_slice_l uu29 sz5 rfl (J.ev rfl) (J.ev rfl) (cutq (X.rdl 0 (h113.rdl qz hZ) rfl) h141).1 (cutq (X.rdl 0 (h113.rdl qz hZ) rfl) h141).2.2.2.2.2) : RunV _ _ _ _ (.slice A142 n143 c144))), trivial⟩ ⟨et [(42, .slice A135 n136 c137)] rfl (fun U J K hK => ?_), trivial⟩
   obtain ⟨y147, h148, G⟩ := bnd G
   refine z_call' en71 J (F_page_Sum (L := L) l133 A135 n136 c137 h148 (qz + 0) hZ (RdL.sfx 0 rfl (h139.rdl qz hZ)) hG0 X) (fun v w hR => ?_) rfl
   obtain ⟨rfl, X⟩ := hR
   refine hK _ [] _ rfl ?_
   refine dF [4, 5, 6] [7] (by kernel_rfl) ⟨pm rfl, pm rfl, pt [(44, .slice A109 n110 c111), (45, .int .i64 x129)] rfl (fun U J => (rv_e e145 (r_slice_l uu29 sz5 rfl (J.ev rfl) (J.ev rfl) (cutq (X.rdl 0 (h113.rdl qz hZ) rfl) h141).1 (cutq (X.rdl 0 (h113.rdl qz hZ) rfl) h141).2.2.2.2.2) : RunV _ _ _ _ (.slice A142 n143 c144))), trivial⟩ ⟨et [(46, .slice A142 n143 c144)] rfl (fun U J K hK => ?_), trivial⟩
   obtain ⟨y149, h150, G⟩ := bnd G
   refine z_call' en77 J (F_page_number (L := L) l140 A142 n143 c144 h150 (RdL.sfx 0 rfl (h146.rdl qz hZ)) X) (fun v w hR => ?_) rfl
   obtain ⟨rfl, X⟩ := hR
   refine hK _ [(8, .bool (y147 != y149))] _ rfl ?_
   refine dEnd [8] (by kernel_rfl) ⟨pt [(43, .int .u32 y147), (47, .int .u32 y149)] rfl (fun U J => r_neI rfl (J.ev rfl) (J.ev rfl)), trivial⟩ ⟨by kernel_rfl, by kernel_rfl⟩ [(1, .int .i64 a1), (8, .slice A109 n110 c111), (10, .int .i64 x129), (48, .bool (y147 != y149))] rfl (fun U J => ?_)
   refine hK132 _ _ ?_
   refine c_if J rfl (fun hb151 => ?_) fun hb151 => ?_
   ·replace G := ift hb151 G
    refine ws fun K152 hK152 => ?_
    refine x_m J rfl fun U J => ?_
    refine x_m J rfl fun U J => ?_
    refine x_m J rfl fun U J => ?_
    refine x_m J rfl fun U J => ?_
    refine wn (hK152 _ _ ?_)
    refine wp_ret ?_
    replace X := SH.nil_own (d := (kI .u8)) (e := 5) X
    cases G
    refine hQ _ _ ?_
    refine lv4 Tryz.results61 J rfl rfl rfl rfl ?_
    exact ⟨none, 0, 0, rfl, X⟩
   replace G := iff' hb151 G
   refine wp_skip ?_
   refine hK131 _ _ ?_
   refine wp_seq_k fun K153 hK153 => ?_
   refine wp_draw [0, 1, 3, 0, 0, 24, 56, 0, 0, 384, 896, 127, 2175, 8191, 16383] [6] rfl J X (by kernel_rfl) (by kernel_rfl) (by kernel_rfl) (by kernel_rfl) fun w X => ?_
   obtain ⟨x154, h155, G⟩ := bnd G
   obtain ⟨cs, hV, hc156⟩ := el (X.rdl 0 (h113.rdl qz hZ) rfl) h155
   obtain rfl := hV
   obtain ⟨l157, h158, G⟩ := bnd G
   obtain ⟨A159, n160, c161, e162, h163⟩ := imm_lhc h113 h158
   obtain ⟨x164, h165, G⟩ := ltt_ G
   obtain ⟨x166, h167, G⟩ := ltt_ G
   refine ⟨[(0, .slice A109 n110 c111), (1, .pointer (some (ea A109 ((4 : Int).toNat * 1)))), (2, .int .u8 x154), (3, .slice A109 n110 c111), (4, .int .i64 x129), (5, .slice A159 n160 c161), (7, .int .i64 a1), (8, .int .i64 x129), (9, .int .i64 x164), (10, .int .i64 x166)], ?_⟩
   refine dF [0, 1, 2, 3, 4, 5, 7, 8, 9, 10] [6] (by kernel_rfl) ⟨pm rfl, pt [(49, .slice A109 n110 c111)] rfl (fun U J => y_ia uu29 sz5 (X.rdl 0 (h113.rdl qz hZ) rfl) h155 J rfl rfl rfl), pt [(50, .pointer (some (ea A109 ((4 : Int).toNat * 1))))] rfl (fun U J => y_ld uu5 (hc156 0 _ rfl) J rfl rfl rfl), pm rfl, pm rfl, pt [(52, .slice A109 n110 c111), (53, .int .i64 x129)] rfl (fun U J => (rv_e e162 (r_slice_lh uu29 sz5 rfl (J.ev rfl) (J.ev rfl) (J.ev rfl) (cutq (X.rdl 0 (h113.rdl qz hZ) rfl) h158).1 (cutq (X.rdl 0 (h113.rdl qz hZ) rfl) h158).2.1 (cutq (X.rdl 0 (h113.rdl qz hZ) rfl) h158).2.2.1) : RunV _ _ _ _ (.slice A159 n160 c161))), pm rfl, pm rfl, pt [(56, .int .i64 a1), (57, .int .i64 x129)] rfl (fun U J => (rv_i h165 (r_add rfl (J.ev rfl) (J.ev rfl)) : RunV _ _ _ _ (.int .i64 x164))), pt [(58, .int .i64 x164)] rfl (fun U J => (rv_i h167 (r_add rfl (J.ev rfl) (J.ev rfl)) : RunV _ _ _ _ (.int .i64 x166))), trivial⟩ ⟨et [(54, .slice A159 n160 c161)] rfl (fun U J K hK => ?_), trivial⟩
   obtain ⟨y168, h169, G⟩ := bnd G
   refine z_call' en35 J (F_slices_Clone_byte_byte (L := L) l157 A159 n160 c161 h169 (RdL.sfx 0 rfl (h163.rdl qz hZ)) X) (fun v w hR => ?_) rfl
   obtain ⟨B170, m171, d172, rfl, X⟩ := hR
   obtain ⟨cs, hV, hc173⟩ := el (X.rdl 1 (h113.rdl qz hZ) rfl) h155
   obtain rfl := hV
   refine hK _ [(11, .int .u8 x154), (12, .slice B170 m171 d172), (13, .int .i64 x166), (14, .int .i64 0)] _ rfl ?_
   refine dEnd [0, 1, 2, 7, 8, 9, 10, 11, 12, 13, 14] (by kernel_rfl) ⟨pm rfl, pt [(49, .slice A109 n110 c111)] rfl (fun U J => y_ia uu29 sz5 (X.rdl 1 (h113.rdl qz hZ) rfl) h155 J rfl rfl rfl), pt [(50, .pointer (some (ea A109 ((4 : Int).toNat * 1))))] rfl (fun U J => y_ld uu5 (hc173 0 _ rfl) J rfl rfl rfl), pm rfl, pm rfl, pt [(56, .int .i64 a1), (57, .int .i64 x129)] rfl (fun U J => (rv_i h165 (r_add rfl (J.ev rfl) (J.ev rfl)) : RunV _ _ _ _ (.int .i64 x164))), pt [(58, .int .i64 x164)] rfl (fun U J => (rv_i h167 (r_add rfl (J.ev rfl) (J.ev rfl)) : RunV _ _ _ _ (.int .i64 x166))), pm rfl, pm rfl, pm rfl, pm rfl, trivial⟩ ⟨by kernel_rfl, by kernel_rfl⟩ [(4, .int .u8 x154), (5, .slice B170 m171 d172), (6, .int .i64 x166), (7, .int .i64 0)] rfl (fun U J => ?_)
   refine hK153 _ _ ?_
   refine wp_ret ?_
   cases G
   refine hQ _ _ ?_
   refine lv4 Tryz.results61 J rfl rfl rfl rfl ?_
   exact ⟨B170, m171, d172, rfl, X⟩
  refine wp_reg ?_
  refine x_m J rfl fun U J => ?_
  refine x_v J (r_gtI rfl (J.ev rfl) (J.ev rfl)) rfl fun U J => ?_
  refine x_m J rfl fun U J => ?_
  refine bcase (b := decide (1048576 < y119)) (fun hb174 => ?_) fun hb174 => ?_
  ·replace G := ift hb174 G
   refine xO 6 hb174 J rfl fun U J => ?_
   refine x_pickt' hb174 J (fun U J => ?_) rfl
   refine wpList_nil ?_
   exact hj2 true G U w (J.sub _ rfl) X
  replace G := iff' hb174 G
  refine x_on' hb174 J ?_ rfl
  refine x_m J rfl fun U J => ?_
  refine x_on' hb174 J ?_ rfl
  obtain ⟨x175, h176, G⟩ := ltt_ G
  refine x_v (v := .int .i64 x175) J (rv_i h176 (r_convI uu47 uu3 rfl (J.ev rfl))) rfl fun U J => ?_
  refine x_on' hb174 J ?_ rfl
  refine x_m J rfl fun U J => ?_
  refine x_on' hb174 J ?_ rfl
  refine x_len' uu29 (X.rdl 0 (h113.rdl qz hZ) rfl).2.1 J (fun U J => ?_) rfl
  refine x_on' hb174 J ?_ rfl
  obtain ⟨x177, h178, G⟩ := ltt_ G
  refine x_v (v := .int .i64 x177) J (rv_i h178 (r_sub rfl (J.ev rfl) (J.ev rfl))) rfl fun U J => ?_
  refine x_on' hb174 J ?_ rfl
  refine x_v J (r_gtI rfl (J.ev rfl) (J.ev rfl)) rfl fun U J => ?_
  refine x_pickf' hb174 J (fun U J => ?_) rfl
  refine wpList_nil ?_
  exact hj2 (decide (x177 < x175)) G U w (J.sub _ rfl) X
 refine wp_reg ?_
 refine x_m J rfl fun U J => ?_
 refine x_v J (r_ltI rfl (J.ev rfl) (J.ev rfl)) rfl fun U J => ?_
 refine x_m J rfl fun U J => ?_
 refine bcase (b := decide (a1 < 0)) (fun hb179 => ?_) fun hb179 => ?_
 ·replace G := ift hb179 G
  refine xO 4 hb179 J rfl fun U J => ?_
  refine x_pickt' hb179 J (fun U J => ?_) rfl
  refine wpList_nil ?_
  exact hj1 true G U w (J.sub _ rfl) X
 replace G := iff' hb179 G
 refine x_on' hb179 J ?_ rfl
 refine x_m J rfl fun U J => ?_
 refine x_on' hb179 J ?_ rfl
 refine x_m J rfl fun U J => ?_
 refine x_on' hb179 J ?_ rfl
 refine x_len' uu29 (X.rdl 0 (ha0.rdl qz hZ) rfl).2.1 J (fun U J => ?_) rfl
 refine x_on' hb179 J ?_ rfl
 refine x_v J (r_gtI rfl (J.ev rfl) (J.ev rfl)) rfl fun U J => ?_
 refine x_pickf' hb179 J (fun U J => ?_) rfl
 refine wpList_nil ?_
 exact hj1 (decide ((a0.length : Int) < a1)) G U w (J.sub _ rfl) X
noncomputable section
set_option linter.unusedSimpArgs false
def page_four (a0 : Int) : Option ((List Int)) :=
  ltt (IntKind.u8.wrap a0) fun x103 => (ltt (ishr .u32 a0 8) fun x105 => (ltt (IntKind.u8.wrap x105) fun x107 => (ltt (ishr .u32 a0 16) fun x109 => (ltt (IntKind.u8.wrap x109) fun x111 => (ltt (ishr .u32 a0 24) fun x113 => (ltt (IntKind.u8.wrap x113) fun x115 => (some [x103, x107, x111, x115])))))))
def page_Lay (a0 : (List Int)) (a1 : Int) (a2 : (List Int)) : Option ((List Int)) :=
  ltt (IntKind.u32.wrap (a2.length : Int)) fun x103 => ((page_four x103).bind fun y105 => (chk (y105.length + [a1].length ≤ 140737488355328 / 1) (chk ((y105 ++ [a1]).length + a2.length ≤ 140737488355328 / 1) (chk (a0.length + ((y105 ++ [a1]) ++ a2).length ≤ 140737488355328 / 1) ((page_Sum ((y105 ++ [a1]) ++ a2)).bind fun y124 => ((page_four y124).bind fun y126 => (chk ((a0 ++ ((y105 ++ [a1]) ++ a2)).length + y126.length ≤ 140737488355328 / 1) (some ((a0 ++ ((y105 ++ [a1]) ++ a2)) ++ y126)))))))))
end
theorem F_page_four {r : World} {L : List HP} {w : World} (a0 : Int) {y : ((List Int))} (G : page_four a0 = some y) (X : SH r (L) w) :
  Ret Tryz.prog 70 #[.int .u32 a0] w fun v w' => ∃ (B0 : Option Addr) (m0 : Nat) (d0 : Nat), v = .slice B0 m0 d0 ∧ SH r (own (kI .u8) 5 B0 m0 d0 y :: L) w' := by
 refine enter Tryz.func70 rfl Tryz.ntmps70 [(0, .int .u32 a0)] rfl (by simp) ?_
 intro U J Qf hQ hQn
 unfold page_four at G
 refine ws fun K100 hK100 => ?_
 refine x_m J rfl fun U J => ?_
 refine wn (hK100 _ _ ?_)
 refine ws fun K101 hK101 => ?_
 refine x_m J rfl fun U J => ?_
 obtain ⟨x102, h103, G⟩ := ltt_ G
 refine x_v (v := .int .u8 x102) J (rv_i h103 (r_convI uu47 uu5 rfl (J.ev rfl))) rfl fun U J => ?_
 refine x_m J rfl fun U J => ?_
 obtain ⟨x104, h105, G⟩ := ltt_ G
 refine x_v (v := .int .u32 x104) J (rv_i h105 (r_shr rfl (J.ev rfl) (J.ev rfl) (by decide))) rfl fun U J => ?_
 obtain ⟨x106, h107, G⟩ := ltt_ G
 refine x_v (v := .int .u8 x106) J (rv_i h107 (r_convI uu47 uu5 rfl (J.ev rfl))) rfl fun U J => ?_
 refine x_m J rfl fun U J => ?_
 obtain ⟨x108, h109, G⟩ := ltt_ G
 refine x_v (v := .int .u32 x108) J (rv_i h109 (r_shr rfl (J.ev rfl) (J.ev rfl) (by decide))) rfl fun U J => ?_
 obtain ⟨x110, h111, G⟩ := ltt_ G
 refine x_v (v := .int .u8 x110) J (rv_i h111 (r_convI uu47 uu5 rfl (J.ev rfl))) rfl fun U J => ?_
 refine x_m J rfl fun U J => ?_
 obtain ⟨x112, h113, G⟩ := ltt_ G
 refine x_v (v := .int .u32 x112) J (rv_i h113 (r_shr rfl (J.ev rfl) (J.ev rfl) (by decide))) rfl fun U J => ?_
 obtain ⟨x114, h115, G⟩ := ltt_ G
 refine x_v (v := .int .u8 x114) J (rv_i h115 (r_convI uu47 uu5 rfl (J.ev rfl))) rfl fun U J => ?_
 refine x_bsl' (d := (kI .u8)) (e := 5) (ps := #[(0, .int .u8 x102), (1, .int .u8 x106), (2, .int .u8 x110), (3, .int .u8 x114)]) (cells := [.int .u8 x102, .int .u8 x106, .int .u8 x110, .int .u8 x114]) (xs := [x102, x106, x110, x114]) (fun w => by kernel_rfl) rfl ⟨[.int .u8 x102], _, rfl, rfl, ⟨[.int .u8 x106], _, rfl, rfl, ⟨[.int .u8 x110], _, rfl, rfl, ⟨[.int .u8 x114], _, rfl, rfl, rfl⟩⟩⟩⟩ J X (fun g116 U w X J => ?_) rfl
 refine x_m J rfl fun U J => ?_
 refine wn (hK101 _ _ ?_)
 refine wp_ret ?_
 cases G
 refine hQ _ _ ?_
 refine lv Tryz.results70 J rfl ?_
 exact ⟨some ⟨g116, 0, none⟩, 4, 4, rfl, X⟩
theorem F_page_Lay {r : World} {L : List HP} {w : World} {Z : Nat → Prop} {wz : World} (a0 : (List Int)) (a1 : Int) (a2 : (List Int)) (A0 : Option Addr) (n0 : Nat) (c0 : Nat) (A2 : Option Addr) (n2 : Nat) (c2 : Nat) {y : ((List Int))} (G : page_Lay a0 a1 a2 = some y) (qz : Nat) (hZ : L[qz]? = some (zone Z wz)) (ha2 : RdL L (kI .u8) A2 n2 c2 a2) (hG0 : Imm Z wz (kI .u32) (some ⟨0, 0, none⟩) 16 16 gl_page_table) (X : SH r (own (kI .u8) 5 A0 n0 c0 a0 :: L) w) :
  Ret Tryz.prog 49 #[.slice A0 n0 c0, .int .u8 a1, .slice A2 n2 c2] w fun v w' => ∃ (B0 : Option Addr) (m0 : Nat) (d0 : Nat), v = .slice B0 m0 d0 ∧ SH r (own (kI .u8) 5 B0 m0 d0 y :: L) w' := by
 refine enter Tryz.func49 rfl Tryz.ntmps49 [(0, .slice A0 n0 c0), (1, .int .u8 a1), (2, .slice A2 n2 c2)] rfl (by simp) ?_
 intro U J Qf hQ hQn
 unfold page_Lay at G
 refine ws fun K100 hK100 => ?_
 refine x_m J rfl fun U J => ?_
 refine wn (hK100 _ _ ?_)
 refine ws fun K101 hK101 => ?_
 refine x_m J rfl fun U J => ?_
 refine x_len' uu29 (X.rdl 1 ha2 rfl).2.1 J (fun U J => ?_) rfl
 obtain ⟨x102, h103, G⟩ := ltt_ G
 refine x_v (v := .int .u32 x102) J (rv_i h103 (r_convI uu3 uu47 rfl (J.ev rfl))) rfl fun U J => ?_
 obtain ⟨y104, h105, G⟩ := bnd G
 refine x_call' en70 J (F_page_four (L := own (kI .u8) 5 A0 n0 c0 a0 :: L) x102 h105 X) (fun v U w hR J => ?_) rfl
 obtain ⟨B106, m107, d108, rfl, X⟩ := hR
 refine x_m J rfl fun U J => ?_
 refine x_bsl' (d := (kI .u8)) (e := 5) (ps := #[(0, .int .u8 a1)]) (cells := [.int .u8 a1]) (xs := [a1]) (fun w => by kernel_rfl) rfl ⟨[.int .u8 a1], _, rfl, rfl, rfl⟩ J X (fun g109 U w X J => ?_) rfl
 obtain ⟨h110, G⟩ := chk_some G
 have hr := X.rd 0 rfl
 refine x_app' 1 inf5 uu29 J X hr.1 hr.2.1 h110 rfl (fun A111 n112 c113 U w X J => ?_) rfl
 refine x_m J rfl fun U J => ?_
 obtain ⟨h114, G⟩ := chk_some G
 have hr := X.rdl 3 ha2 rfl
 refine x_app' 0 inf5 uu29 J X hr.1 hr.2.1 h114 rfl (fun A115 n116 c117 U w X J => ?_) rfl
 refine x_m J rfl fun U J => ?_
 refine wn (hK101 _ _ ?_)
 refine ws fun K118 hK118 => ?_
 refine x_m J rfl fun U J => ?_
 refine x_m J rfl fun U J => ?_
 obtain ⟨h119, G⟩ := chk_some G
 have hr := X.rd 0 rfl
 refine x_app' 2 inf5 uu29 J X hr.1 hr.2.1 h119 rfl (fun A120 n121 c122 U w X J => ?_) rfl
 refine x_m J rfl fun U J => ?_
 obtain ⟨y123, h124, G⟩ := bnd G
 refine x_call' en71 J (F_page_Sum (L := own (kI .u8) 5 A120 n121 c122 (a0 ++ ((y104 ++ [a1]) ++ a2)) :: own (kI .u8) 5 A115 n116 c117 ((y104 ++ [a1]) ++ a2) :: own (kI .u8) 5 (some ⟨g109, 0, none⟩) 1 1 [a1] :: L) ((y104 ++ [a1]) ++ a2) A115 n116 c117 h124 (qz + 3) hZ (RdL.own 1 rfl (X.dropN 0)) hG0 X) (fun v U w hR J => ?_) rfl
 obtain ⟨rfl, X⟩ := hR
 obtain ⟨y125, h126, G⟩ := bnd G
 refine x_call' en70 J (F_page_four (L := own (kI .u8) 5 A120 n121 c122 (a0 ++ ((y104 ++ [a1]) ++ a2)) :: own (kI .u8) 5 A115 n116 c117 ((y104 ++ [a1]) ++ a2) :: own (kI .u8) 5 (some ⟨g109, 0, none⟩) 1 1 [a1] :: L) y123 h126 X) (fun v U w hR J => ?_) rfl
 obtain ⟨B127, m128, d129, rfl, X⟩ := hR
 obtain ⟨h130, G⟩ := chk_some G
 have hr := X.rd 0 rfl
 refine x_app' 1 inf5 uu29 J X hr.1 hr.2.1 h130 rfl (fun A131 n132 c133 U w X J => ?_) rfl
 refine x_m J rfl fun U J => ?_
 refine wn (hK118 _ _ ?_)
 refine wp_ret ?_
 replace X := X.drop 1 |>.drop 1 |>.drop 1
 cases G
 refine hQ _ _ ?_
 refine lv Tryz.results49 J rfl ?_
 exact ⟨A131, n132, c133, rfl, X⟩
noncomputable section
set_option linter.unusedSimpArgs false
def column_Uint_b1 (l318 : (List Int)) (x322 : Int) : Option ((List Int)) :=
  ltt (IntKind.u8.wrap x322) fun x324 => (chk (l318.length + [x324].length ≤ 140737488355328 / 1) (some (l318 ++ [x324])))
def column_Uint_x1_0 (l378 : (List Int)) (x382 : Int) : Option ((List Int)) :=
  column_Uint_b1 l378 x382
def column_Uint_l1 (l352 : (List Int)) (x356 : Int) : Option (((List Int) × Int) ⊕ (((List Int) × Int))) :=
  if (decide (128 ≤ x356)) = true then (ltt (IntKind.u8.wrap x356) fun x389 => (ltt (ior .u8 x389 128) fun x391 => (chk (l352.length + [x391].length ≤ 140737488355328 / 1) (ltt (ishr .u64 x356 7) fun x398 => (some (.inl (l352 ++ [x391], x398))))))) else (some (.inr (l352, x356)))
def column_Uint (a0 : (List Int)) (a1 : Int) : Option ((List Int)) :=
  (loop (fun s => column_Uint_l1 s.1 s.2) (a0, a1)).bind fun t => column_Uint_x1_0 t.1 t.2
def column_Int (a0 : (List Int)) (a1 : Int) : Option ((List Int)) :=
  ltt (ishl .i64 a1 1) fun x103 => (ltt (IntKind.u64.wrap x103) fun x105 => (ltt (ishr .i64 a1 63) fun x107 => (ltt (IntKind.u64.wrap x107) fun x109 => (ltt (ixor .u64 x105 x109) fun x111 => ((column_Uint a0 x111).bind fun y113 => (some y113))))))
def column_Text (a0 : (List Int)) (a1 : (List UInt8)) : Option ((List Int)) :=
  ltt (IntKind.u64.wrap (a1.length : Int)) fun x103 => ((column_Uint a0 x103).bind fun y105 => (chk (y105.length + a1.length ≤ 140737488355328 / 1) (some (y105 ++ stb a1))))
end
theorem F_column_Uint {r : World} {L : List HP} {w : World} (a0 : (List Int)) (a1 : Int) (A0 : Option Addr) (n0 : Nat) (c0 : Nat) {y : ((List Int))} (G : column_Uint a0 a1 = some y) (X : SH r (own (kI .u8) 5 A0 n0 c0 a0 :: L) w) :
  Ret Tryz.prog 50 #[.slice A0 n0 c0, .int .u64 a1] w fun v w' => ∃ (B0 : Option Addr) (m0 : Nat) (d0 : Nat), v = .slice B0 m0 d0 ∧ SH r (own (kI .u8) 5 B0 m0 d0 y :: L) w' := by
 refine enter Tryz.func50 rfl Tryz.ntmps50 [(0, .slice A0 n0 c0), (1, .int .u64 a1)] rfl (by simp) ?_
 intro U J Qf hQ hQn
 unfold column_Uint at G
 refine ws fun K100 hK100 => ?_
 refine x_m J rfl fun U J => ?_
 refine wn (hK100 _ _ ?_)
 refine wp_seq_k fun K101 hK101 => ?_
 refine wp_block_k fun Kx102 hKx102 => ?_
 have hb1 : ∀ (l103 : (List Int)) (x104 : Int), column_Uint_b1 l103 x104 = some y → ∀ (A105 : Option Addr) (n106 : Nat) (c107 : Nat) (U : Act) (w : World), FR 20 [] U [(0, .slice A105 n106 c107), (1, .int .u64 x104)] → SH r (own (kI .u8) 5 A105 n106 c107 l103 :: L) w → Kx102 U w := by
  intro l103 x104 G A105 n106 c107 U w J X
  unfold column_Uint_b1 at G
  refine hKx102 _ _ ?_
  refine hK101 _ _ ?_
  refine ws fun K108 hK108 => ?_
  refine x_m J rfl fun U J => ?_
  refine x_m J rfl fun U J => ?_
  obtain ⟨x109, h110, G⟩ := ltt_ G
  refine x_v (v := .int .u8 x109) J (rv_i h110 (r_convI uu30 uu5 rfl (J.ev rfl))) rfl fun U J => ?_
  refine x_bsl' (d := (kI .u8)) (e := 5) (ps := #[(0, .int .u8 x109)]) (cells := [.int .u8 x109]) (xs := [x109]) (fun w => by kernel_rfl) rfl ⟨[.int .u8 x109], _, rfl, rfl, rfl⟩ J X (fun g111 U w X J => ?_) rfl
  obtain ⟨h112, G⟩ := chk_some G
  have hr := X.rd 0 rfl
  refine x_app' 1 inf5 uu29 J X hr.1 hr.2.1 h112 rfl (fun A113 n114 c115 U w X J => ?_) rfl
  refine x_m J rfl fun U J => ?_
  refine wn (hK108 _ _ ?_)
  refine wp_ret ?_
  replace X := X.drop 1
  cases G
  refine hQ _ _ ?_
  refine lv Tryz.results50 J rfl ?_
  exact ⟨A113, n114, c115, rfl, X⟩
 obtain ⟨t116, hl116, G⟩ := bnd G
 have hx116_0 : ∀ (l117 : (List Int)) (x116 : Int), (l117, x116) = t116 → ∀ (A118 : Option Addr) (n119 : Nat) (c120 : Nat) (U : Act) (w : World), FR 20 [] U [(0, .slice A118 n119 c120), (1, .int .u64 x116)] → SH r (own (kI .u8) 5 A118 n119 c120 l117 :: L) w → Kx102 U w := by
  intro l117 x116 ht A118 n119 c120 U w J X
  subst ht
  replace G : column_Uint_x1_0 l117 x116 = some y := G
  unfold column_Uint_x1_0 at G
  exact hb1 l117 x116 G A118 n119 c120 U w (J.sub _ rfl) X
 refine wp_loop_fn hl116 (fun s U w => ∃ (A121 : Option Addr) (n122 : Nat) (c123 : Nat), FR 20 [] U [(0, .slice A121 n122 c123), (1, .int .u64 s.2)] ∧ SH r (own (kI .u8) 5 A121 n122 c123 s.1 :: L) w) ⟨A0, n0, c0, J.sub _ rfl, X⟩ ?_
 intro N116 s116 o116 G N116_ T116_ U w hLab
 obtain ⟨l124, x125⟩ := s116
 replace G : column_Uint_l1 l124 x125 = some o116 := G
 unfold column_Uint_l1 at G
 try dsimp only at hLab
 obtain ⟨A121, n122, c123, J, X⟩ := hLab
 refine wp_seq_k fun K126 hK126 => ?_
 refine ws fun K127 hK127 => ?_
 refine x_m J rfl fun U J => ?_
 refine x_v J (r_geI rfl (J.ev rfl) (J.ev rfl)) rfl fun U J => ?_
 refine wn (hK127 _ _ ?_)
 refine c_if J rfl (fun hb128 => ?_) fun hb128 => ?_
 ·replace G := ift hb128 G
  refine wp_skip ?_
  refine hK126 _ _ ?_
  refine wp_seq_k fun K129 hK129 => ?_
  refine wp_block_k fun Kx130 hKx130 => ?_
  refine wp_reg ?_
  refine x_m J rfl fun U J => ?_
  refine x_m J rfl fun U J => ?_
  obtain ⟨x131, h132, G⟩ := ltt_ G
  refine x_v (v := .int .u8 x131) J (rv_i h132 (r_convI uu30 uu5 rfl (J.ev rfl))) rfl fun U J => ?_
  obtain ⟨x133, h134, G⟩ := ltt_ G
  refine x_v (v := .int .u8 x133) J (rv_i h134 (r_or rfl (J.ev rfl) (J.ev rfl))) rfl fun U J => ?_
  refine x_bsl' (d := (kI .u8)) (e := 5) (ps := #[(0, .int .u8 x133)]) (cells := [.int .u8 x133]) (xs := [x133]) (fun w => by kernel_rfl) rfl ⟨[.int .u8 x133], _, rfl, rfl, rfl⟩ J X (fun g135 U w X J => ?_) rfl
  obtain ⟨h136, G⟩ := chk_some G
  have hr := X.rd 0 rfl
  refine x_app' 1 inf5 uu29 J X hr.1 hr.2.1 h136 rfl (fun A137 n138 c139 U w X J => ?_) rfl
  refine x_m J rfl fun U J => ?_
  refine wpList_nil ?_
  refine hKx130 _ _ ?_
  refine hK129 _ _ ?_
  refine wp_reg ?_
  refine x_m J rfl fun U J => ?_
  obtain ⟨x140, h141, G⟩ := ltt_ G
  refine x_v (v := .int .u64 x140) J (rv_i h141 (r_shr rfl (J.ev rfl) (J.ev rfl) (by decide))) rfl fun U J => ?_
  refine x_m J rfl fun U J => ?_
  refine wpList_nil ?_
  replace X := X.drop 1
  cases G
  exact ⟨_, N116_ _ rfl, A137, n138, c139, J.sub _ rfl, X⟩
 replace G := iff' hb128 G
 refine wp_exit ?_
 cases G
 exact hx116_0 l124 x125 (T116_ _ rfl) A121 n122 c123 U w (J.sub _ rfl) X
theorem F_column_Int {r : World} {L : List HP} {w : World} (a0 : (List Int)) (a1 : Int) (A0 : Option Addr) (n0 : Nat) (c0 : Nat) {y : ((List Int))} (G : column_Int a0 a1 = some y) (X : SH r (own (kI .u8) 5 A0 n0 c0 a0 :: L) w) :
  Ret Tryz.prog 67 #[.slice A0 n0 c0, .int .i64 a1] w fun v w' => ∃ (B0 : Option Addr) (m0 : Nat) (d0 : Nat), v = .slice B0 m0 d0 ∧ SH r (own (kI .u8) 5 B0 m0 d0 y :: L) w' := by
 refine enter Tryz.func67 rfl Tryz.ntmps67 [(0, .slice A0 n0 c0), (1, .int .i64 a1)] rfl (by simp) ?_
 intro U J Qf hQ hQn
 unfold column_Int at G
 refine ws fun K100 hK100 => ?_
 refine x_m J rfl fun U J => ?_
 refine wn (hK100 _ _ ?_)
 refine ws fun K101 hK101 => ?_
 refine x_m J rfl fun U J => ?_
 refine x_m J rfl fun U J => ?_
 obtain ⟨x102, h103, G⟩ := ltt_ G
 refine x_v (v := .int .i64 x102) J (rv_i h103 (r_shl rfl (J.ev rfl) (J.ev rfl) (by decide))) rfl fun U J => ?_
 obtain ⟨x104, h105, G⟩ := ltt_ G
 refine x_v (v := .int .u64 x104) J (rv_i h105 (r_convI uu2 uu30 rfl (J.ev rfl))) rfl fun U J => ?_
 refine x_m J rfl fun U J => ?_
 obtain ⟨x106, h107, G⟩ := ltt_ G
 refine x_v (v := .int .i64 x106) J (rv_i h107 (r_shr rfl (J.ev rfl) (J.ev rfl) (by decide))) rfl fun U J => ?_
 obtain ⟨x108, h109, G⟩ := ltt_ G
 refine x_v (v := .int .u64 x108) J (rv_i h109 (r_convI uu2 uu30 rfl (J.ev rfl))) rfl fun U J => ?_
 obtain ⟨x110, h111, G⟩ := ltt_ G
 refine x_v (v := .int .u64 x110) J (rv_i h111 (r_xor rfl (J.ev rfl) (J.ev rfl))) rfl fun U J => ?_
 obtain ⟨y112, h113, G⟩ := bnd G
 refine x_call' en50 J (F_column_Uint (L := L) a0 x110 A0 n0 c0 h113 X) (fun v U w hR J => ?_) rfl
 obtain ⟨B114, m115, d116, rfl, X⟩ := hR
 refine x_m J rfl fun U J => ?_
 refine wn (hK101 _ _ ?_)
 refine wp_ret ?_
 cases G
 refine hQ _ _ ?_
 refine lv Tryz.results67 J rfl ?_
 exact ⟨B114, m115, d116, rfl, X⟩
theorem F_column_Text {r : World} {L : List HP} {w : World} (a0 : (List Int)) (a1 : (List UInt8)) (A0 : Option Addr) (n0 : Nat) (c0 : Nat) {y : ((List Int))} (G : column_Text a0 a1 = some y) (X : SH r (own (kI .u8) 5 A0 n0 c0 a0 :: L) w) :
  Ret Tryz.prog 68 #[.slice A0 n0 c0, str a1] w fun v w' => ∃ (B0 : Option Addr) (m0 : Nat) (d0 : Nat), v = .slice B0 m0 d0 ∧ SH r (own (kI .u8) 5 B0 m0 d0 y :: L) w' := by
 refine enter Tryz.func68 rfl Tryz.ntmps68 [(0, .slice A0 n0 c0), (1, str a1)] rfl (by simp) ?_
 intro U J Qf hQ hQn
 unfold column_Text at G
 refine ws fun K100 hK100 => ?_
 refine x_m J rfl fun U J => ?_
 refine wn (hK100 _ _ ?_)
 refine ws fun K101 hK101 => ?_
 refine x_m J rfl fun U J => ?_
 refine x_m J rfl fun U J => ?_
 refine x_v J (r_lenS uu9 rfl (J.ev rfl)) rfl fun U J => ?_
 obtain ⟨x102, h103, G⟩ := ltt_ G
 refine x_v (v := .int .u64 x102) J (rv_i h103 (r_convI uu3 uu30 rfl (J.ev rfl))) rfl fun U J => ?_
 obtain ⟨y104, h105, G⟩ := bnd G
 refine x_call' en50 J (F_column_Uint (L := L) a0 x102 A0 n0 c0 h105 X) (fun v U w hR J => ?_) rfl
 obtain ⟨B106, m107, d108, rfl, X⟩ := hR
 refine x_m J rfl fun U J => ?_
 obtain ⟨h109, G⟩ := chk_some G
 refine x_appS' 0 inf5 uu29 uu9 J X h109 rfl (fun A110 n111 c112 U w X J => ?_) rfl
 refine x_m J rfl fun U J => ?_
 refine wn (hK101 _ _ ?_)
 refine wp_ret ?_
 cases G
 refine hQ _ _ ?_
 refine lv Tryz.results68 J rfl ?_
 exact ⟨A110, n111, c112, rfl, X⟩
noncomputable section
set_option linter.unusedSimpArgs false
def column_Reader_Check (a0 : S121) (a1 : Bool) : Option ((S121) ⊕ (S121)) :=
  if (!a1) = true then (some (.inr a0)) else (some (.inl a0))
def column_Reader_Byte (a0 : S121) : Option ((Int × S121) ⊕ (S121)) :=
  (column_Reader_Check a0 (decide (0 < (a0.f0.length : Int)))).bind fun y107 => (sum_ y107 (fun y107 => ((at_ y107.f0 0).bind fun x118 => ((cut_ y107.f0 1 (y107.f0.length : Int)).bind fun l122 => (some (.inl (x118, (⟨l122⟩ : S121))))))) (fun y107 => (some (.inr y107))))
def column_Reader_Uint_j2 (x536 : Int) (l573 : (List Int)) : Option (((List Int) × Int × Int) ⊕ (((Int × S121) ⊕ (S121)))) :=
  some (.inr (.inl (x536, (⟨l573⟩ : S121))))
def column_Reader_Uint_j1 (a1 : Int) (x293 : Int) (x294 : Int) (y478 : (Int × S121)) (l521 : (List Int)) : Option (((List Int) × Int × Int) ⊕ (((Int × S121) ⊕ (S121)))) :=
  ltt (iand .u8 y478.1 127) fun x527 => (ltt (IntKind.u64.wrap x527) fun x529 => (ltt (IntKind.i64.wrap (7 * x294)) fun x531 => (chk (0 ≤ x531) (ltt (ishl .u64 x529 x531) fun x534 => (ltt (ior .u64 x293 x534) fun x536 => (if (decide (y478.1 < 128)) = true then (if (decide (x536 ≤ a1)) = true then (if (x294 == 0) = true then ((column_Reader_Check (⟨l521⟩ : S121) true).bind fun y581 => (sum_ y581 (fun y581 => (column_Reader_Uint_j2 x536 y581.f0)) (fun y581 => (some (.inr (.inr y581)))))) else ((column_Reader_Check (⟨l521⟩ : S121) (decide (0 < y478.1))).bind fun y591 => (sum_ y591 (fun y591 => (column_Reader_Uint_j2 x536 y591.f0)) (fun y591 => (some (.inr (.inr y591))))))) else ((column_Reader_Check (⟨l521⟩ : S121) false).bind fun y601 => (sum_ y601 (fun y601 => (column_Reader_Uint_j2 x536 y601.f0)) (fun y601 => (some (.inr (.inr y601))))))) else (ltt (IntKind.i64.wrap (x294 + 1)) fun x611 => (some (.inl (l521, x536, x611))))))))))
def column_Reader_Uint_l1 (a1 : Int) (l288 : (List Int)) (x293 : Int) (x294 : Int) : Option (((List Int) × Int × Int) ⊕ (((Int × S121) ⊕ (S121)))) :=
  (column_Reader_Byte (⟨l288⟩ : S121)).bind fun y478 => (sum_ y478 (fun y478 => (if (decide (x294 < 9)) = true then ((column_Reader_Check y478.2 true).bind fun y614 => (sum_ y614 (fun y614 => (column_Reader_Uint_j1 a1 x293 x294 y478 y614.f0)) (fun y614 => (some (.inr (.inr y614)))))) else (if (x294 == 9) = true then ((column_Reader_Check y478.2 (decide (y478.1 < 2))).bind fun y625 => (sum_ y625 (fun y625 => (column_Reader_Uint_j1 a1 x293 x294 y478 y625.f0)) (fun y625 => (some (.inr (.inr y625)))))) else ((column_Reader_Check y478.2 false).bind fun y635 => (sum_ y635 (fun y635 => (column_Reader_Uint_j1 a1 x293 x294 y478 y635.f0)) (fun y635 => (some (.inr (.inr y635))))))))) (fun y478 => (some (.inr (.inr y478)))))
def column_Reader_Uint (a0 : S121) (a1 : Int) : Option ((Int × S121) ⊕ (S121)) :=
  (loop (fun s => column_Reader_Uint_l1 a1 s.1 s.2.1 s.2.2) (a0.f0, 0, 0)).bind fun t => some t
def column_Reader_Int (a0 : S121) : Option ((Int × S121) ⊕ (S121)) :=
  (column_Reader_Uint a0 18446744073709551615).bind fun y107 => (sum_ y107 (fun y107 => (ltt (ishr .u64 y107.1 1) fun x118 => (ltt (IntKind.i64.wrap x118) fun x120 => (ltt (iand .u64 y107.1 1) fun x122 => (ltt (IntKind.i64.wrap x122) fun x124 => (ltt (ixor .i64 x120 (IntKind.i64.wrap (0 - x124))) fun x126 => (some (.inl (x126, y107.2))))))))) (fun y107 => (some (.inr y107))))
def column_Reader_Text (a0 : S121) (a1 : Int) : Option (((List UInt8) × S121) ⊕ (S121)) :=
  ltt (IntKind.u64.wrap a1) fun x107 => ((column_Reader_Uint a0 x107).bind fun y109 => (sum_ y109 (fun y109 => (ltt (IntKind.u64.wrap (y109.2.f0.length : Int)) fun x120 => ((column_Reader_Check y109.2 (decide (y109.1 ≤ x120))).bind fun y122 => (sum_ y122 (fun y122 => ((cut_ y122.f0 0 y109.1).bind fun l133 => ((cut_ y122.f0 y109.1 (y122.f0.length : Int)).bind fun l141 => (some (.inl (bts l133, (⟨l141⟩ : S121))))))) (fun y122 => (some (.inr y122))))))) (fun y109 => (some (.inr y109)))))
end
theorem F_column_Reader_Check {r : World} {L : List HP} {w : World} {Z : Nat → Prop} {wz : World} (a0 : S121) (a1 : Bool) (g0 : Nat) {y : ((S121) ⊕ (S121))} (G : column_Reader_Check a0 a1 = some y) (qz : Nat) (hZ : L[qz]? = some (zone Z wz)) (X : SH r (obj121 Z wz g0 a0 :: L) w) :
  RetS Tryz.prog 55 #[.pointer (some ⟨g0, 0, none⟩), .bool a1] w badC y (fun y v w' => v = .tuple #[] ∧ SH r (obj121 Z wz g0 y :: L) w') (fun y w' => SH r (obj121 Z wz g0 y :: L) w') := by
 refine enterS Tryz.func55 rfl Tryz.ntmps55 [(0, (pP g0)), (1, .bool a1)] rfl (by simp) ?_
 intro U J Qf hQ hQn hQp
 unfold column_Reader_Check at G
 obtain ⟨A100, n101, c102, X⟩ := obj121_open X
 obtain ⟨h103, X⟩ := (X.pk 1).unpure
 refine ws fun K104 hK104 => ?_
 refine x_m J rfl fun U J => ?_
 refine x_v J (r_not rfl (J.ev rfl)) rfl fun U J => ?_
 refine wn (hK104 _ _ ?_)
 refine c_if J rfl (fun hb105 => ?_) fun hb105 => ?_
 ·replace G := ift hb105 G
  refine wp_reg ?_
  refine x_v (v := .agg #[]) J (r_build (ps := #[]) rfl (mapev2 J rfl) (fun w => by kernel_rfl)) rfl fun U J => ?_
  refine x_v J (r_makeI uu118 rfl rfl (J.ev rfl)) rfl fun U J => ?_
  refine x_panic' J ?_ rfl
  replace X := SH.pure_ h103 X
  replace X := X.pk 1
  replace X := obj121_mk (x := a0) X
  cases G
  exact hQp _ rfl _ _ J.defers X
 replace G := iff' hb105 G
 refine wp_skip ?_
 replace X := SH.pure_ h103 X
 replace X := X.pk 1
 replace X := obj121_mk (x := a0) X
 cases G
 refine hQn _ rfl _ _ ?_
 refine lv0n Tryz.results55 J ?_
 exact ⟨rfl, X⟩
theorem F_column_Reader_Byte {r : World} {L : List HP} {w : World} {Z : Nat → Prop} {wz : World} (a0 : S121) (g0 : Nat) {y : ((Int × S121) ⊕ (S121))} (G : column_Reader_Byte a0 = some y) (qz : Nat) (hZ : L[qz]? = some (zone Z wz)) (X : SH r (obj121 Z wz g0 a0 :: L) w) :
  RetS Tryz.prog 54 #[.pointer (some ⟨g0, 0, none⟩)] w badC y (fun y v w' => v = .int .u8 y.1 ∧ SH r (obj121 Z wz g0 y.2 :: L) w') (fun y w' => SH r (obj121 Z wz g0 y :: L) w') := by
 refine enterS Tryz.func54 rfl Tryz.ntmps54 [(0, (pP g0))] rfl (by simp) ?_
 intro U J Qf hQ hQn hQp
 unfold column_Reader_Byte at G
 obtain ⟨A100, n101, c102, X⟩ := obj121_open X
 obtain ⟨h103, X⟩ := (X.pk 1).unpure
 refine ws fun K104 hK104 => ?_
 refine x_m J rfl fun U J => ?_
 refine wn (hK104 _ _ ?_)
 refine ws fun K105 hK105 => ?_
 refine x_m J rfl fun U J => ?_
 refine x_m J rfl fun U J => ?_
 refine x_v J (r_nilCheck rfl (J.ev rfl)) rfl fun U J => ?_
 refine x_fab' fa121_0 J (fun U J => ?_) rfl
 refine x_ld' uu29 (X.cell 0 rfl 0 _ rfl) J (fun U J => ?_) rfl
 refine x_len' uu29 (X.rdl 1 (h103.rdl qz hZ) rfl).2.1 J (fun U J => ?_) rfl
 refine x_v J (r_gtI rfl (J.ev rfl) (J.ev rfl)) rfl fun U J => ?_
 replace X := SH.pure_ h103 X
 replace X := X.pk 1
 replace X := obj121_mk (x := a0) X
 obtain ⟨y106, h107, G⟩ := bnd G
 rcases y106 with y106 | y106
 rotate_left
 ·replace G := sum_r G
  refine x_callp' (vs := #[.pointer (some ⟨g0, 0, none⟩), .bool (decide (0 < (a0.f0.length : Int)))]) en55 J (RetS.rf (F_column_Reader_Check (L := L) a0 (decide (0 < (a0.f0.length : Int))) g0 h107 (qz + 0) hZ X)) (fun w hR => ?_) rfl
  replace X := hR
  obtain ⟨A108, n109, c110, X⟩ := obj121_open X
  obtain ⟨h111, X⟩ := (X.pk 1).unpure
  replace X := SH.pure_ h111 X
  replace X := X.pk 1
  replace X := obj121_mk (x := y106) X
  cases G
  exact hQp _ rfl _ _ J.defers X
 replace G := sum_l G
 refine x_callw' (vs := #[.pointer (some ⟨g0, 0, none⟩), .bool (decide (0 < (a0.f0.length : Int)))]) en55 J (RetS.lf (F_column_Reader_Check (L := L) a0 (decide (0 < (a0.f0.length : Int))) g0 h107 (qz + 0) hZ X)) (fun v U w hR J => ?_) rfl
 obtain ⟨rfl, X⟩ := hR
 obtain ⟨A112, n113, c114, X⟩ := obj121_open X
 obtain ⟨h115, X⟩ := (X.pk 1).unpure
 refine wn (hK105 _ _ ?_)
 refine ws fun K116 hK116 => ?_
 refine x_m J rfl fun U J => ?_
 refine x_v J (r_nilCheck rfl (J.ev rfl)) rfl fun U J => ?_
 refine x_fab' fa121_0 J (fun U J => ?_) rfl
 refine x_ld' uu29 (X.cell 0 rfl 0 _ rfl) J (fun U J => ?_) rfl
 obtain ⟨x117, h118, G⟩ := bnd G
 refine x_ia' uu29 sz5 (X.rdl 1 (h115.rdl qz hZ) rfl) h118 J (fun U J => ?_) rfl
 obtain ⟨cs, hV, hc119⟩ := el (X.rdl 1 (h115.rdl qz hZ) rfl) h118
 obtain rfl := hV
 refine x_ld' uu5 (hc119 0 _ rfl) J (fun U J => ?_) rfl
 refine x_m J rfl fun U J => ?_
 refine wn (hK116 _ _ ?_)
 refine ws fun K120 hK120 => ?_
 refine x_m J rfl fun U J => ?_
 refine x_m J rfl fun U J => ?_
 refine x_v J (r_nilCheck rfl (J.ev rfl)) rfl fun U J => ?_
 refine x_fab' fa121_0 J (fun U J => ?_) rfl
 refine x_ld' uu29 (X.cell 0 rfl 0 _ rfl) J (fun U J => ?_) rfl
 obtain ⟨l121, h122, G⟩ := bnd G
 obtain ⟨A123, n124, c125, e126, h127⟩ := imm_lc h115 h122
 refine x_v (v := .slice A123 n124 c125) J (rv_e e126 (r_slice_l uu29 sz5 rfl (J.ev rfl) (J.ev rfl) (cutq (X.rdl 1 (h115.rdl qz hZ) rfl) h122).1 (cutq (X.rdl 1 (h115.rdl qz hZ) rfl) h122).2.2.2.2.2)) rfl fun U J => ?_
 refine x_v J (r_nilCheck rfl (J.ev rfl)) rfl fun U J => ?_
 refine x_fab' fa121_0 J (fun U J => ?_) rfl
 refine x_stb' 0 sz29 J X rfl (fun  U w X J => ?_) rfl
 refine wn (hK120 _ _ ?_)
 refine ws fun K128 hK128 => ?_
 refine x_m J rfl fun U J => ?_
 refine x_m J rfl fun U J => ?_
 refine wn (hK128 _ _ ?_)
 refine wp_ret ?_
 replace X := SH.pure_ h127 X
 replace X := X.pk 1
 replace X := obj121_mk (x := (⟨l121⟩ : S121)) X
 cases G
 refine hQ _ rfl _ _ ?_
 refine lv Tryz.results54 J rfl ?_
 exact ⟨rfl, X⟩
theorem F_column_Reader_Uint {r : World} {L : List HP} {w : World} {Z : Nat → Prop} {wz : World} (a0 : S121) (a1 : Int) (g0 : Nat) {y : ((Int × S121) ⊕ (S121))} (G : column_Reader_Uint a0 a1 = some y) (qz : Nat) (hZ : L[qz]? = some (zone Z wz)) (X : SH r (obj121 Z wz g0 a0 :: L) w) :
  RetS Tryz.prog 44 #[.pointer (some ⟨g0, 0, none⟩), .int .u64 a1] w badC y (fun y v w' => v = .int .u64 y.1 ∧ SH r (obj121 Z wz g0 y.2 :: L) w') (fun y w' => SH r (obj121 Z wz g0 y :: L) w') := by
 refine enterS Tryz.func44 rfl Tryz.ntmps44 [(0, (pP g0)), (1, .int .u64 a1)] rfl (by simp) ?_
 intro U J Qf hQ hQn hQp
 unfold column_Reader_Uint at G
 obtain ⟨A100, n101, c102, X⟩ := obj121_open X
 obtain ⟨h103, X⟩ := (X.pk 1).unpure
 refine ws fun K104 hK104 => ?_
 refine x_m J rfl fun U J => ?_
 refine wn (hK104 _ _ ?_)
 refine ws fun K105 hK105 => ?_
 refine x_m J rfl fun U J => ?_
 refine wn (hK105 _ _ ?_)
 refine ws fun K106 hK106 => ?_
 refine x_m J rfl fun U J => ?_
 refine wn (hK106 _ _ ?_)
 refine wp_block_k fun Kx107 hKx107 => ?_
 obtain ⟨t108, hl108, G⟩ := bnd G
 have hR108 := G
 refine wp_loop_fn hl108 (fun s U w => ∃ (A109 : Option Addr) (n110 : Nat) (c111 : Nat), Imm Z wz (kI .u8) A109 n110 c111 s.1 ∧ FR 48 [] U [(0, (pP g0)), (1, .int .u64 a1), (5, .int .u64 s.2.1), (6, .int .i64 s.2.2)] ∧ SH r (blk g0 121 [.slice A109 n110 c111] :: L) w) ⟨A100, n101, c102, h103, J.sub _ rfl, X⟩ ?_
 intro N108 s108 o108 G N108_ T108_ U w hLab
 obtain ⟨l112, x113, x114⟩ := s108
 replace G : column_Reader_Uint_l1 a1 l112 x113 x114 = some o108 := G
 unfold column_Reader_Uint_l1 at G
 try dsimp only at hLab
 obtain ⟨A109, n110, c111, h115, J, X⟩ := hLab
 refine wp_seq_k fun K116 hK116 => ?_
 refine wp_block_k fun Kx117 hKx117 => ?_
 refine ws fun K118 hK118 => ?_
 refine x_m J rfl fun U J => ?_
 replace X := SH.pure_ h115 X
 replace X := X.pk 1
 replace X := obj121_mk (x := (⟨l112⟩ : S121)) X
 obtain ⟨y119, h120, G⟩ := bnd G
 rcases y119 with y119 | y119
 rotate_left
 ·replace G := sum_r G
  refine x_callp' (vs := #[.pointer (some ⟨g0, 0, none⟩)]) en54 J (RetS.rf (F_column_Reader_Byte (L := L) (⟨l112⟩ : S121) g0 h120 (qz + 0) hZ X)) (fun w hR => ?_) rfl
  replace X := hR
  obtain ⟨A121, n122, c123, X⟩ := obj121_open X
  obtain ⟨h124, X⟩ := (X.pk 1).unpure
  replace X := SH.pure_ h124 X
  replace X := X.pk 1
  replace X := obj121_mk (x := y119) X
  cases G
  have ht := T108_ _ rfl
  subst ht
  replace G := hR108
  replace G : some (.inr y119) = some y := G
  cases G
  exact hQp _ rfl _ _ J.defers X
 replace G := sum_l G
 refine x_callw' (vs := #[.pointer (some ⟨g0, 0, none⟩)]) en54 J (RetS.lf (F_column_Reader_Byte (L := L) (⟨l112⟩ : S121) g0 h120 (qz + 0) hZ X)) (fun v U w hR J => ?_) rfl
 obtain ⟨rfl, X⟩ := hR
 obtain ⟨A125, n126, c127, X⟩ := obj121_open X
 obtain ⟨h128, X⟩ := (X.pk 1).unpure
 refine x_m J rfl fun U J => ?_
 refine wn (hK118 _ _ ?_)
 refine wp_seq_k fun K129 hK129 => ?_
 have hj1 : ∀ (l130 : (List Int)), column_Reader_Uint_j1 a1 x113 x114 y119 l130 = some o108 → ∀ (A131 : Option Addr) (n132 : Nat) (c133 : Nat) (h134 : Imm Z wz (kI .u8) A131 n132 c133 l130) (U : Act) (w : World), FR 48 [] U [(0, (pP g0)), (1, .int .u64 a1), (5, .int .u64 x113), (6, .int .i64 x114), (7, .int .u8 y119.1)] → SH r (blk g0 121 [.slice A131 n132 c133] :: L) w → K129 U w := by
  intro l130 G A131 n132 c133 h134 U w J X
  unfold column_Reader_Uint_j1 at G
  refine hK129 _ _ ?_
  refine ws fun K135 hK135 => ?_
  refine x_m J rfl fun U J => ?_
  refine x_m J rfl fun U J => ?_
  obtain ⟨x136, h137, G⟩ := ltt_ G
  refine x_v (v := .int .u8 x136) J (rv_i h137 (r_and rfl (J.ev rfl) (J.ev rfl))) rfl fun U J => ?_
  obtain ⟨x138, h139, G⟩ := ltt_ G
  refine x_v (v := .int .u64 x138) J (rv_i h139 (r_convI uu5 uu30 rfl (J.ev rfl))) rfl fun U J => ?_
  refine x_m J rfl fun U J => ?_
  obtain ⟨x140, h141, G⟩ := ltt_ G
  refine x_v (v := .int .i64 x140) J (rv_i h141 (r_mul rfl (J.ev rfl) (J.ev rfl))) rfl fun U J => ?_
  obtain ⟨h142, G⟩ := chk_some G
  obtain ⟨x143, h144, G⟩ := ltt_ G
  refine x_v (v := .int .u64 x143) J (rv_i h144 (r_shl rfl (J.ev rfl) (J.ev rfl) h142)) rfl fun U J => ?_
  obtain ⟨x145, h146, G⟩ := ltt_ G
  refine x_v (v := .int .u64 x145) J (rv_i h146 (r_or rfl (J.ev rfl) (J.ev rfl))) rfl fun U J => ?_
  refine x_m J rfl fun U J => ?_
  refine wn (hK135 _ _ ?_)
  refine ws fun K147 hK147 => ?_
  refine x_m J rfl fun U J => ?_
  refine x_v J (r_ltI rfl (J.ev rfl) (J.ev rfl)) rfl fun U J => ?_
  refine wn (hK147 _ _ ?_)
  refine c_if J rfl (fun hb148 => ?_) fun hb148 => ?_
  ·replace G := ift hb148 G
   refine wp_seq_k fun K149 hK149 => ?_
   have hj2 : ∀ (l150 : (List Int)), column_Reader_Uint_j2 x145 l150 = some o108 → ∀ (A151 : Option Addr) (n152 : Nat) (c153 : Nat) (h154 : Imm Z wz (kI .u8) A151 n152 c153 l150) (U : Act) (w : World), FR 48 [] U [(0, (pP g0)), (5, .int .u64 x145)] → SH r (blk g0 121 [.slice A151 n152 c153] :: L) w → K149 U w := by
    intro l150 G A151 n152 c153 h154 U w J X
    unfold column_Reader_Uint_j2 at G
    refine hK149 _ _ ?_
    refine ws fun K155 hK155 => ?_
    refine x_m J rfl fun U J => ?_
    refine x_m J rfl fun U J => ?_
    refine wn (hK155 _ _ ?_)
    refine wp_ret ?_
    replace X := SH.pure_ h154 X
    replace X := X.pk 1
    replace X := obj121_mk (x := (⟨l150⟩ : S121)) X
    cases G
    have ht := T108_ _ rfl
    subst ht
    replace G := hR108
    replace G : some (.inl (x145, (⟨l150⟩ : S121))) = some y := G
    cases G
    refine hQ _ rfl _ _ ?_
    refine lv Tryz.results44 J rfl ?_
    exact ⟨rfl, X⟩
   refine wp_reg ?_
   refine x_m J rfl fun U J => ?_
   refine x_m J rfl fun U J => ?_
   refine x_m J rfl fun U J => ?_
   refine x_v J (r_leI rfl (J.ev rfl) (J.ev rfl)) rfl fun U J => ?_
   refine x_m J rfl fun U J => ?_
   refine bcase (b := decide (x145 ≤ a1)) (fun hb156 => ?_) fun hb156 => ?_
   ·replace G := ift hb156 G
    refine x_on' hb156 J ?_ rfl
    refine x_m J rfl fun U J => ?_
    refine x_on' hb156 J ?_ rfl
    refine x_v J (r_eqI rfl (J.ev rfl) (J.ev rfl)) rfl fun U J => ?_
    refine x_on' hb156 J ?_ rfl
    refine x_m J rfl fun U J => ?_
    refine bcase (b := x114 == 0) (fun hb157 => ?_) fun hb157 => ?_
    ·replace G := ift hb157 G
     refine xO 2 hb157 J rfl fun U J => ?_
     refine x_on' hb156 J ?_ rfl
     refine x_pickt' hb157 J (fun U J => ?_) rfl
     refine x_pickt' hb156 J (fun U J => ?_) rfl
     replace X := SH.pure_ h134 X
     replace X := X.pk 1
     replace X := obj121_mk (x := (⟨l130⟩ : S121)) X
     obtain ⟨y158, h159, G⟩ := bnd G
     rcases y158 with y158 | y158
     rotate_left
     ·replace G := sum_r G
      refine x_callp' (vs := #[.pointer (some ⟨g0, 0, none⟩), .bool true]) en55 J (RetS.rf (F_column_Reader_Check (L := L) (⟨l130⟩ : S121) true g0 h159 (qz + 0) hZ X)) (fun w hR => ?_) rfl
      replace X := hR
      obtain ⟨A160, n161, c162, X⟩ := obj121_open X
      obtain ⟨h163, X⟩ := (X.pk 1).unpure
      replace X := SH.pure_ h163 X
      replace X := X.pk 1
      replace X := obj121_mk (x := y158) X
      cases G
      have ht := T108_ _ rfl
      subst ht
      replace G := hR108
      replace G : some (.inr y158) = some y := G
      cases G
      exact hQp _ rfl _ _ J.defers X
     replace G := sum_l G
     refine x_callw' (vs := #[.pointer (some ⟨g0, 0, none⟩), .bool true]) en55 J (RetS.lf (F_column_Reader_Check (L := L) (⟨l130⟩ : S121) true g0 h159 (qz + 0) hZ X)) (fun v U w hR J => ?_) rfl
     obtain ⟨rfl, X⟩ := hR
     obtain ⟨A164, n165, c166, X⟩ := obj121_open X
     obtain ⟨h167, X⟩ := (X.pk 1).unpure
     refine wpList_nil ?_
     exact hj2 y158.f0 G A164 n165 c166 h167 U w (J.sub _ rfl) X
    replace G := iff' hb157 G
    refine x_on' hb157 J ?_ rfl
    refine x_m J rfl fun U J => ?_
    refine x_on' hb157 J ?_ rfl
    refine x_v J (r_gtI rfl (J.ev rfl) (J.ev rfl)) rfl fun U J => ?_
    refine x_on' hb156 J ?_ rfl
    refine x_pickf' hb157 J (fun U J => ?_) rfl
    refine x_pickt' hb156 J (fun U J => ?_) rfl
    replace X := SH.pure_ h134 X
    replace X := X.pk 1
    replace X := obj121_mk (x := (⟨l130⟩ : S121)) X
    obtain ⟨y168, h169, G⟩ := bnd G
    rcases y168 with y168 | y168
    rotate_left
    ·replace G := sum_r G
     refine x_callp' (vs := #[.pointer (some ⟨g0, 0, none⟩), .bool (decide (0 < y119.1))]) en55 J (RetS.rf (F_column_Reader_Check (L := L) (⟨l130⟩ : S121) (decide (0 < y119.1)) g0 h169 (qz + 0) hZ X)) (fun w hR => ?_) rfl
     replace X := hR
     obtain ⟨A170, n171, c172, X⟩ := obj121_open X
     obtain ⟨h173, X⟩ := (X.pk 1).unpure
     replace X := SH.pure_ h173 X
     replace X := X.pk 1
     replace X := obj121_mk (x := y168) X
     cases G
     have ht := T108_ _ rfl
     subst ht
     replace G := hR108
     replace G : some (.inr y168) = some y := G
     cases G
     exact hQp _ rfl _ _ J.defers X
    replace G := sum_l G
    refine x_callw' (vs := #[.pointer (some ⟨g0, 0, none⟩), .bool (decide (0 < y119.1))]) en55 J (RetS.lf (F_column_Reader_Check (L := L) (⟨l130⟩ : S121) (decide (0 < y119.1)) g0 h169 (qz + 0) hZ X)) (fun v U w hR J => ?_) rfl
    obtain ⟨rfl, X⟩ := hR
    obtain ⟨A174, n175, c176, X⟩ := obj121_open X
    obtain ⟨h177, X⟩ := (X.pk 1).unpure
    refine wpList_nil ?_
    exact hj2 y168.f0 G A174 n175 c176 h177 U w (J.sub _ rfl) X
   replace G := iff' hb156 G
   refine xO 3 hb156 J rfl fun U J => ?_
   refine x_offU' J (fun U J => ?_) rfl
   refine x_offU' J (fun U J => ?_) rfl
   refine xO 1 hb156 J rfl fun U J => ?_
   refine x_pickf' hb156 J (fun U J => ?_) rfl
   replace X := SH.pure_ h134 X
   replace X := X.pk 1
   replace X := obj121_mk (x := (⟨l130⟩ : S121)) X
   obtain ⟨y178, h179, G⟩ := bnd G
   rcases y178 with y178 | y178
   rotate_left
   ·replace G := sum_r G
    refine x_callp' (vs := #[.pointer (some ⟨g0, 0, none⟩), .bool false]) en55 J (RetS.rf (F_column_Reader_Check (L := L) (⟨l130⟩ : S121) false g0 h179 (qz + 0) hZ X)) (fun w hR => ?_) rfl
    replace X := hR
    obtain ⟨A180, n181, c182, X⟩ := obj121_open X
    obtain ⟨h183, X⟩ := (X.pk 1).unpure
    replace X := SH.pure_ h183 X
    replace X := X.pk 1
    replace X := obj121_mk (x := y178) X
    cases G
    have ht := T108_ _ rfl
    subst ht
    replace G := hR108
    replace G : some (.inr y178) = some y := G
    cases G
    exact hQp _ rfl _ _ J.defers X
   replace G := sum_l G
   refine x_callw' (vs := #[.pointer (some ⟨g0, 0, none⟩), .bool false]) en55 J (RetS.lf (F_column_Reader_Check (L := L) (⟨l130⟩ : S121) false g0 h179 (qz + 0) hZ X)) (fun v U w hR J => ?_) rfl
   obtain ⟨rfl, X⟩ := hR
   obtain ⟨A184, n185, c186, X⟩ := obj121_open X
   obtain ⟨h187, X⟩ := (X.pk 1).unpure
   refine wpList_nil ?_
   exact hj2 y178.f0 G A184 n185 c186 h187 U w (J.sub _ rfl) X
  replace G := iff' hb148 G
  refine wp_skip ?_
  refine hKx117 _ _ ?_
  refine hK116 _ _ ?_
  refine wp_reg ?_
  refine x_m J rfl fun U J => ?_
  obtain ⟨x188, h189, G⟩ := ltt_ G
  refine x_v (v := .int .i64 x188) J (rv_i h189 (r_add rfl (J.ev rfl) (J.ev rfl))) rfl fun U J => ?_
  refine x_m J rfl fun U J => ?_
  refine wpList_nil ?_
  cases G
  exact ⟨_, N108_ _ rfl, A131, n132, c133, h134, J.sub _ rfl, X⟩
 refine wp_reg ?_
 refine x_m J rfl fun U J => ?_
 refine x_m J rfl fun U J => ?_
 refine x_v J (r_ltI rfl (J.ev rfl) (J.ev rfl)) rfl fun U J => ?_
 refine x_m J rfl fun U J => ?_
 refine bcase (b := decide (x114 < 9)) (fun hb190 => ?_) fun hb190 => ?_
 ·replace G := ift hb190 G
  refine xO 3 hb190 J rfl fun U J => ?_
  refine x_offU' J (fun U J => ?_) rfl
  refine x_offU' J (fun U J => ?_) rfl
  refine xO 1 hb190 J rfl fun U J => ?_
  refine x_pickt' hb190 J (fun U J => ?_) rfl
  replace X := SH.pure_ h128 X
  replace X := X.pk 1
  replace X := obj121_mk (x := y119.2) X
  obtain ⟨y191, h192, G⟩ := bnd G
  rcases y191 with y191 | y191
  rotate_left
  ·replace G := sum_r G
   refine x_callp' (vs := #[.pointer (some ⟨g0, 0, none⟩), .bool true]) en55 J (RetS.rf (F_column_Reader_Check (L := L) y119.2 true g0 h192 (qz + 0) hZ X)) (fun w hR => ?_) rfl
   replace X := hR
   obtain ⟨A193, n194, c195, X⟩ := obj121_open X
   obtain ⟨h196, X⟩ := (X.pk 1).unpure
   replace X := SH.pure_ h196 X
   replace X := X.pk 1
   replace X := obj121_mk (x := y191) X
   cases G
   have ht := T108_ _ rfl
   subst ht
   replace G := hR108
   replace G : some (.inr y191) = some y := G
   cases G
   exact hQp _ rfl _ _ J.defers X
  replace G := sum_l G
  refine x_callw' (vs := #[.pointer (some ⟨g0, 0, none⟩), .bool true]) en55 J (RetS.lf (F_column_Reader_Check (L := L) y119.2 true g0 h192 (qz + 0) hZ X)) (fun v U w hR J => ?_) rfl
  obtain ⟨rfl, X⟩ := hR
  obtain ⟨A197, n198, c199, X⟩ := obj121_open X
  obtain ⟨h200, X⟩ := (X.pk 1).unpure
  refine wpList_nil ?_
  exact hj1 y191.f0 G A197 n198 c199 h200 U w (J.sub _ rfl) X
 replace G := iff' hb190 G
 refine x_on' hb190 J ?_ rfl
 refine x_m J rfl fun U J => ?_
 refine x_on' hb190 J ?_ rfl
 refine x_v J (r_eqI rfl (J.ev rfl) (J.ev rfl)) rfl fun U J => ?_
 refine x_on' hb190 J ?_ rfl
 refine x_m J rfl fun U J => ?_
 refine bcase (b := x114 == 9) (fun hb201 => ?_) fun hb201 => ?_
 ·replace G := ift hb201 G
  refine x_on' hb201 J ?_ rfl
  refine x_m J rfl fun U J => ?_
  refine x_on' hb201 J ?_ rfl
  refine x_v J (r_ltI rfl (J.ev rfl) (J.ev rfl)) rfl fun U J => ?_
  refine x_on' hb190 J ?_ rfl
  refine x_pickt' hb201 J (fun U J => ?_) rfl
  refine x_pickf' hb190 J (fun U J => ?_) rfl
  replace X := SH.pure_ h128 X
  replace X := X.pk 1
  replace X := obj121_mk (x := y119.2) X
  obtain ⟨y202, h203, G⟩ := bnd G
  rcases y202 with y202 | y202
  rotate_left
  ·replace G := sum_r G
   refine x_callp' (vs := #[.pointer (some ⟨g0, 0, none⟩), .bool (decide (y119.1 < 2))]) en55 J (RetS.rf (F_column_Reader_Check (L := L) y119.2 (decide (y119.1 < 2)) g0 h203 (qz + 0) hZ X)) (fun w hR => ?_) rfl
   replace X := hR
   obtain ⟨A204, n205, c206, X⟩ := obj121_open X
   obtain ⟨h207, X⟩ := (X.pk 1).unpure
   replace X := SH.pure_ h207 X
   replace X := X.pk 1
   replace X := obj121_mk (x := y202) X
   cases G
   have ht := T108_ _ rfl
   subst ht
   replace G := hR108
   replace G : some (.inr y202) = some y := G
   cases G
   exact hQp _ rfl _ _ J.defers X
  replace G := sum_l G
  refine x_callw' (vs := #[.pointer (some ⟨g0, 0, none⟩), .bool (decide (y119.1 < 2))]) en55 J (RetS.lf (F_column_Reader_Check (L := L) y119.2 (decide (y119.1 < 2)) g0 h203 (qz + 0) hZ X)) (fun v U w hR J => ?_) rfl
  obtain ⟨rfl, X⟩ := hR
  obtain ⟨A208, n209, c210, X⟩ := obj121_open X
  obtain ⟨h211, X⟩ := (X.pk 1).unpure
  refine wpList_nil ?_
  exact hj1 y202.f0 G A208 n209 c210 h211 U w (J.sub _ rfl) X
 replace G := iff' hb201 G
 refine xO 2 hb201 J rfl fun U J => ?_
 refine x_on' hb190 J ?_ rfl
 refine x_pickf' hb201 J (fun U J => ?_) rfl
 refine x_pickf' hb190 J (fun U J => ?_) rfl
 replace X := SH.pure_ h128 X
 replace X := X.pk 1
 replace X := obj121_mk (x := y119.2) X
 obtain ⟨y212, h213, G⟩ := bnd G
 rcases y212 with y212 | y212
 rotate_left
 ·replace G := sum_r G
  refine x_callp' (vs := #[.pointer (some ⟨g0, 0, none⟩), .bool false]) en55 J (RetS.rf (F_column_Reader_Check (L := L) y119.2 false g0 h213 (qz + 0) hZ X)) (fun w hR => ?_) rfl
  replace X := hR
  obtain ⟨A214, n215, c216, X⟩ := obj121_open X
  obtain ⟨h217, X⟩ := (X.pk 1).unpure
  replace X := SH.pure_ h217 X
  replace X := X.pk 1
  replace X := obj121_mk (x := y212) X
  cases G
  have ht := T108_ _ rfl
  subst ht
  replace G := hR108
  replace G : some (.inr y212) = some y := G
  cases G
  exact hQp _ rfl _ _ J.defers X
 replace G := sum_l G
 refine x_callw' (vs := #[.pointer (some ⟨g0, 0, none⟩), .bool false]) en55 J (RetS.lf (F_column_Reader_Check (L := L) y119.2 false g0 h213 (qz + 0) hZ X)) (fun v U w hR J => ?_) rfl
 obtain ⟨rfl, X⟩ := hR
 obtain ⟨A218, n219, c220, X⟩ := obj121_open X
 obtain ⟨h221, X⟩ := (X.pk 1).unpure
 refine wpList_nil ?_
 exact hj1 y212.f0 G A218 n219 c220 h221 U w (J.sub _ rfl) X
theorem F_column_Reader_Int {r : World} {L : List HP} {w : World} {Z : Nat → Prop} {wz : World} (a0 : S121) (g0 : Nat) {y : ((Int × S121) ⊕ (S121))} (G : column_Reader_Int a0 = some y) (qz : Nat) (hZ : L[qz]? = some (zone Z wz)) (X : SH r (obj121 Z wz g0 a0 :: L) w) :
  RetS Tryz.prog 57 #[.pointer (some ⟨g0, 0, none⟩)] w badC y (fun y v w' => v = .int .i64 y.1 ∧ SH r (obj121 Z wz g0 y.2 :: L) w') (fun y w' => SH r (obj121 Z wz g0 y :: L) w') := by
 refine enterS Tryz.func57 rfl Tryz.ntmps57 [(0, (pP g0))] rfl (by simp) ?_
 intro U J Qf hQ hQn hQp
 unfold column_Reader_Int at G
 obtain ⟨A100, n101, c102, X⟩ := obj121_open X
 obtain ⟨h103, X⟩ := (X.pk 1).unpure
 refine ws fun K104 hK104 => ?_
 refine x_m J rfl fun U J => ?_
 refine wn (hK104 _ _ ?_)
 refine ws fun K105 hK105 => ?_
 refine x_m J rfl fun U J => ?_
 replace X := SH.pure_ h103 X
 replace X := X.pk 1
 replace X := obj121_mk (x := a0) X
 obtain ⟨y106, h107, G⟩ := bnd G
 rcases y106 with y106 | y106
 rotate_left
 ·replace G := sum_r G
  refine x_callp' (vs := #[.pointer (some ⟨g0, 0, none⟩), .int .u64 18446744073709551615]) en44 J (RetS.rf (F_column_Reader_Uint (L := L) a0 18446744073709551615 g0 h107 (qz + 0) hZ X)) (fun w hR => ?_) rfl
  replace X := hR
  obtain ⟨A108, n109, c110, X⟩ := obj121_open X
  obtain ⟨h111, X⟩ := (X.pk 1).unpure
  replace X := SH.pure_ h111 X
  replace X := X.pk 1
  replace X := obj121_mk (x := y106) X
  cases G
  exact hQp _ rfl _ _ J.defers X
 replace G := sum_l G
 refine x_callw' (vs := #[.pointer (some ⟨g0, 0, none⟩), .int .u64 18446744073709551615]) en44 J (RetS.lf (F_column_Reader_Uint (L := L) a0 18446744073709551615 g0 h107 (qz + 0) hZ X)) (fun v U w hR J => ?_) rfl
 obtain ⟨rfl, X⟩ := hR
 obtain ⟨A112, n113, c114, X⟩ := obj121_open X
 obtain ⟨h115, X⟩ := (X.pk 1).unpure
 refine x_m J rfl fun U J => ?_
 refine wn (hK105 _ _ ?_)
 refine ws fun K116 hK116 => ?_
 refine x_m J rfl fun U J => ?_
 obtain ⟨x117, h118, G⟩ := ltt_ G
 refine x_v (v := .int .u64 x117) J (rv_i h118 (r_shr rfl (J.ev rfl) (J.ev rfl) (by decide))) rfl fun U J => ?_
 obtain ⟨x119, h120, G⟩ := ltt_ G
 refine x_v (v := .int .i64 x119) J (rv_i h120 (r_convI uu30 uu2 rfl (J.ev rfl))) rfl fun U J => ?_
 refine x_m J rfl fun U J => ?_
 obtain ⟨x121, h122, G⟩ := ltt_ G
 refine x_v (v := .int .u64 x121) J (rv_i h122 (r_and rfl (J.ev rfl) (J.ev rfl))) rfl fun U J => ?_
 obtain ⟨x123, h124, G⟩ := ltt_ G
 refine x_v (v := .int .i64 x123) J (rv_i h124 (r_convI uu30 uu2 rfl (J.ev rfl))) rfl fun U J => ?_
 refine x_v J (r_neg rfl (J.ev rfl)) rfl fun U J => ?_
 obtain ⟨x125, h126, G⟩ := ltt_ G
 refine x_v (v := .int .i64 x125) J (rv_i h126 (r_xor rfl (J.ev rfl) (J.ev rfl))) rfl fun U J => ?_
 refine x_m J rfl fun U J => ?_
 refine wn (hK116 _ _ ?_)
 refine wp_ret ?_
 replace X := SH.pure_ h115 X
 replace X := X.pk 1
 replace X := obj121_mk (x := y106.2) X
 cases G
 refine hQ _ rfl _ _ ?_
 refine lv Tryz.results57 J rfl ?_
 exact ⟨rfl, X⟩
theorem F_column_Reader_Text {r : World} {L : List HP} {w : World} {Z : Nat → Prop} {wz : World} (a0 : S121) (a1 : Int) (g0 : Nat) {y : (((List UInt8) × S121) ⊕ (S121))} (G : column_Reader_Text a0 a1 = some y) (qz : Nat) (hZ : L[qz]? = some (zone Z wz)) (X : SH r (obj121 Z wz g0 a0 :: L) w) :
  RetS Tryz.prog 56 #[.pointer (some ⟨g0, 0, none⟩), .int .i64 a1] w badC y (fun y v w' => v = str y.1 ∧ SH r (obj121 Z wz g0 y.2 :: L) w') (fun y w' => SH r (obj121 Z wz g0 y :: L) w') := by
 refine enterS Tryz.func56 rfl Tryz.ntmps56 [(0, (pP g0)), (1, .int .i64 a1)] rfl (by simp) ?_
 intro U J Qf hQ hQn hQp
 unfold column_Reader_Text at G
 obtain ⟨A100, n101, c102, X⟩ := obj121_open X
 obtain ⟨h103, X⟩ := (X.pk 1).unpure
 refine ws fun K104 hK104 => ?_
 refine x_m J rfl fun U J => ?_
 refine wn (hK104 _ _ ?_)
 refine ws fun K105 hK105 => ?_
 refine x_m J rfl fun U J => ?_
 refine x_m J rfl fun U J => ?_
 obtain ⟨x106, h107, G⟩ := ltt_ G
 refine x_v (v := .int .u64 x106) J (rv_i h107 (r_convI uu3 uu30 rfl (J.ev rfl))) rfl fun U J => ?_
 replace X := SH.pure_ h103 X
 replace X := X.pk 1
 replace X := obj121_mk (x := a0) X
 obtain ⟨y108, h109, G⟩ := bnd G
 rcases y108 with y108 | y108
 rotate_left
 ·replace G := sum_r G
  refine x_callp' (vs := #[.pointer (some ⟨g0, 0, none⟩), .int .u64 x106]) en44 J (RetS.rf (F_column_Reader_Uint (L := L) a0 x106 g0 h109 (qz + 0) hZ X)) (fun w hR => ?_) rfl
  replace X := hR
  obtain ⟨A110, n111, c112, X⟩ := obj121_open X
  obtain ⟨h113, X⟩ := (X.pk 1).unpure
  replace X := SH.pure_ h113 X
  replace X := X.pk 1
  replace X := obj121_mk (x := y108) X
  cases G
  exact hQp _ rfl _ _ J.defers X
 replace G := sum_l G
 refine x_callw' (vs := #[.pointer (some ⟨g0, 0, none⟩), .int .u64 x106]) en44 J (RetS.lf (F_column_Reader_Uint (L := L) a0 x106 g0 h109 (qz + 0) hZ X)) (fun v U w hR J => ?_) rfl
 obtain ⟨rfl, X⟩ := hR
 obtain ⟨A114, n115, c116, X⟩ := obj121_open X
 obtain ⟨h117, X⟩ := (X.pk 1).unpure
 refine x_m J rfl fun U J => ?_
 refine wn (hK105 _ _ ?_)
 refine ws fun K118 hK118 => ?_
 refine x_m J rfl fun U J => ?_
 refine x_m J rfl fun U J => ?_
 refine x_m J rfl fun U J => ?_
 refine x_v J (r_nilCheck rfl (J.ev rfl)) rfl fun U J => ?_
 refine x_fab' fa121_0 J (fun U J => ?_) rfl
 refine x_ld' uu29 (X.cell 0 rfl 0 _ rfl) J (fun U J => ?_) rfl
 refine x_len' uu29 (X.rdl 1 (h117.rdl qz hZ) rfl).2.1 J (fun U J => ?_) rfl
 obtain ⟨x119, h120, G⟩ := ltt_ G
 refine x_v (v := .int .u64 x119) J (rv_i h120 (r_convI uu3 uu30 rfl (J.ev rfl))) rfl fun U J => ?_
 refine x_v J (r_leI rfl (J.ev rfl) (J.ev rfl)) rfl fun U J => ?_
 replace X := SH.pure_ h117 X
 replace X := X.pk 1
 replace X := obj121_mk (x := y108.2) X
 obtain ⟨y121, h122, G⟩ := bnd G
 rcases y121 with y121 | y121
 rotate_left
 ·replace G := sum_r G
  refine x_callp' (vs := #[.pointer (some ⟨g0, 0, none⟩), .bool (decide (y108.1 ≤ x119))]) en55 J (RetS.rf (F_column_Reader_Check (L := L) y108.2 (decide (y108.1 ≤ x119)) g0 h122 (qz + 0) hZ X)) (fun w hR => ?_) rfl
  replace X := hR
  obtain ⟨A123, n124, c125, X⟩ := obj121_open X
  obtain ⟨h126, X⟩ := (X.pk 1).unpure
  replace X := SH.pure_ h126 X
  replace X := X.pk 1
  replace X := obj121_mk (x := y121) X
  cases G
  exact hQp _ rfl _ _ J.defers X
 replace G := sum_l G
 refine x_callw' (vs := #[.pointer (some ⟨g0, 0, none⟩), .bool (decide (y108.1 ≤ x119))]) en55 J (RetS.lf (F_column_Reader_Check (L := L) y108.2 (decide (y108.1 ≤ x119)) g0 h122 (qz + 0) hZ X)) (fun v U w hR J => ?_) rfl
 obtain ⟨rfl, X⟩ := hR
 obtain ⟨A127, n128, c129, X⟩ := obj121_open X
 obtain ⟨h130, X⟩ := (X.pk 1).unpure
 refine wn (hK118 _ _ ?_)
 refine ws fun K131 hK131 => ?_
 refine x_m J rfl fun U J => ?_
 refine x_v J (r_nilCheck rfl (J.ev rfl)) rfl fun U J => ?_
 refine x_fab' fa121_0 J (fun U J => ?_) rfl
 refine x_ld' uu29 (X.cell 0 rfl 0 _ rfl) J (fun U J => ?_) rfl
 refine x_m J rfl fun U J => ?_
 obtain ⟨l132, h133, G⟩ := bnd G
 obtain ⟨A134, n135, c136, e137, h138⟩ := imm_hc h130 h133
 refine x_v (v := .slice A134 n135 c136) J (rv_e e137 (r_slice_h uu29 sz5 rfl (J.ev rfl) (J.ev rfl) (cutq (X.rdl 1 (h130.rdl qz hZ) rfl) h133).2.2.2.2.1 (cutq (X.rdl 1 (h130.rdl qz hZ) rfl) h133).2.2.1)) rfl fun U J => ?_
 refine x_b2s' uu29 uu5 uu9 (X.rdl 1 (h138.rdl qz hZ) rfl) J (fun U J => ?_) rfl
 refine x_m J rfl fun U J => ?_
 refine wn (hK131 _ _ ?_)
 refine ws fun K139 hK139 => ?_
 refine x_m J rfl fun U J => ?_
 refine x_m J rfl fun U J => ?_
 refine x_v J (r_nilCheck rfl (J.ev rfl)) rfl fun U J => ?_
 refine x_fab' fa121_0 J (fun U J => ?_) rfl
 refine x_ld' uu29 (X.cell 0 rfl 0 _ rfl) J (fun U J => ?_) rfl
 refine x_m J rfl fun U J => ?_
 obtain ⟨l140, h141, G⟩ := bnd G
 obtain ⟨A142, n143, c144, e145, h146⟩ := imm_lc h130 h141
 refine x_v (v := .slice A142 n143 c144) J (rv_e e145 (r_slice_l uu29 sz5 rfl (J.ev rfl) (J.ev rfl) (cutq (X.rdl 1 (h130.rdl qz hZ) rfl) h141).1 (cutq (X.rdl 1 (h130.rdl qz hZ) rfl) h141).2.2.2.2.2)) rfl fun U J => ?_
 refine x_v J (r_nilCheck rfl (J.ev rfl)) rfl fun U J => ?_
 refine x_fab' fa121_0 J (fun U J => ?_) rfl
 refine x_stb' 0 sz29 J X rfl (fun  U w X J => ?_) rfl
 refine wn (hK139 _ _ ?_)
 refine ws fun K147 hK147 => ?_
 refine x_m J rfl fun U J => ?_
 refine x_m J rfl fun U J => ?_
 refine wn (hK147 _ _ ?_)
 refine wp_ret ?_
 replace X := SH.pure_ h146 X
 replace X := X.pk 1
 replace X := obj121_mk (x := (⟨l140⟩ : S121)) X
 cases G
 refine hQ _ rfl _ _ ?_
 refine lv Tryz.results56 J rfl ?_
 exact ⟨rfl, X⟩
noncomputable section
set_option linter.unusedSimpArgs false
def math_IsNaN (a0 : Nat) : Option (Bool) :=
  some (!feq a0 a0)
def real_Canon (a0 : Nat) : Option (Nat) :=
  (math_IsNaN a0).bind fun y104 => (if y104 = true then (some ((9221120237041090560 : Int).toNat)) else (some a0))
def real_Bits (a0 : Nat) : Option (Int) :=
  (real_Canon a0).bind fun y103 => (some (y103 : Int))
def real_Of (a0 : Int) : Option (Nat) :=
  (real_Canon a0.toNat).bind fun y103 => (some y103)
end
theorem F_math_IsNaN {r : World} {L : List HP} {w : World} (a0 : Nat) {y : (Bool)} (G : math_IsNaN a0 = some y) (X : SH r (L) w) :
  Ret Tryz.prog 111 #[.float .f64 a0] w fun v w' => v = .bool y ∧ SH r (L) w' := by
 refine enter Tryz.func111 rfl Tryz.ntmps111 [(0, .float .f64 a0)] rfl (by simp) ?_
 intro U J Qf hQ hQn
 unfold math_IsNaN at G
 refine ws fun K100 hK100 => ?_
 refine x_m J rfl fun U J => ?_
 refine wn (hK100 _ _ ?_)
 refine ws fun K101 hK101 => ?_
 refine x_m J rfl fun U J => ?_
 refine x_m J rfl fun U J => ?_
 refine x_v J (r_neF rfl (J.ev rfl) (J.ev rfl)) rfl fun U J => ?_
 refine x_m J rfl fun U J => ?_
 refine wn (hK101 _ _ ?_)
 refine wp_ret ?_
 cases G
 refine hQ _ _ ?_
 refine lv Tryz.results111 J rfl ?_
 exact ⟨rfl, X⟩
theorem F_real_Canon {r : World} {L : List HP} {w : World} (a0 : Nat) {y : (Nat)} (G : real_Canon a0 = some y) (X : SH r (L) w) :
  Ret Tryz.prog 101 #[.float .f64 a0] w fun v w' => v = .float .f64 y ∧ SH r (L) w' := by
 refine enter Tryz.func101 rfl Tryz.ntmps101 [(0, .float .f64 a0)] rfl (by simp) ?_
 intro U J Qf hQ hQn
 unfold real_Canon at G
 refine ws fun K100 hK100 => ?_
 refine x_m J rfl fun U J => ?_
 refine wn (hK100 _ _ ?_)
 refine wp_seq_k fun K101 hK101 => ?_
 refine ws fun K102 hK102 => ?_
 refine x_m J rfl fun U J => ?_
 obtain ⟨y103, h104, G⟩ := bnd G
 refine x_call' en111 J (F_math_IsNaN (L := L) a0 h104 X) (fun v U w hR J => ?_) rfl
 obtain ⟨rfl, X⟩ := hR
 refine wn (hK102 _ _ ?_)
 refine c_if J rfl (fun hb105 => ?_) fun hb105 => ?_
 ·replace G := ift hb105 G
  refine ws fun K106 hK106 => ?_
  refine x_v J (r_ext (ex107 _) rfl (evs J rfl)) rfl fun U J => ?_
  refine x_m J rfl fun U J => ?_
  refine wn (hK106 _ _ ?_)
  refine wp_ret ?_
  cases G
  refine hQ _ _ ?_
  refine lv Tryz.results101 J rfl ?_
  exact ⟨rfl, X⟩
 replace G := iff' hb105 G
 refine wp_skip ?_
 refine hK101 _ _ ?_
 refine ws fun K107 hK107 => ?_
 refine x_m J rfl fun U J => ?_
 refine x_m J rfl fun U J => ?_
 refine wn (hK107 _ _ ?_)
 refine wp_ret ?_
 cases G
 refine hQ _ _ ?_
 refine lv Tryz.results101 J rfl ?_
 exact ⟨rfl, X⟩
theorem F_real_Bits {r : World} {L : List HP} {w : World} (a0 : Nat) {y : (Int)} (G : real_Bits a0 = some y) (X : SH r (L) w) :
  Ret Tryz.prog 86 #[.float .f64 a0] w fun v w' => v = .int .u64 y ∧ SH r (L) w' := by
 refine enter Tryz.func86 rfl Tryz.ntmps86 [(0, .float .f64 a0)] rfl (by simp) ?_
 intro U J Qf hQ hQn
 unfold real_Bits at G
 refine ws fun K100 hK100 => ?_
 refine x_m J rfl fun U J => ?_
 refine wn (hK100 _ _ ?_)
 refine ws fun K101 hK101 => ?_
 refine x_m J rfl fun U J => ?_
 obtain ⟨y102, h103, G⟩ := bnd G
 refine x_call' en101 J (F_real_Canon (L := L) a0 h103 X) (fun v U w hR J => ?_) rfl
 obtain ⟨rfl, X⟩ := hR
 refine x_v J (r_ext (ex100 _) rfl (evs J rfl)) rfl fun U J => ?_
 refine x_m J rfl fun U J => ?_
 refine wn (hK101 _ _ ?_)
 refine wp_ret ?_
 cases G
 refine hQ _ _ ?_
 refine lv Tryz.results86 J rfl ?_
 exact ⟨rfl, X⟩
theorem F_real_Of {r : World} {L : List HP} {w : World} (a0 : Int) {y : (Nat)} (G : real_Of a0 = some y) (X : SH r (L) w) :
  Ret Tryz.prog 91 #[.int .u64 a0] w fun v w' => v = .float .f64 y ∧ SH r (L) w' := by
 refine enter Tryz.func91 rfl Tryz.ntmps91 [(0, .int .u64 a0)] rfl (by simp) ?_
 intro U J Qf hQ hQn
 unfold real_Of at G
 refine ws fun K100 hK100 => ?_
 refine x_m J rfl fun U J => ?_
 refine wn (hK100 _ _ ?_)
 refine ws fun K101 hK101 => ?_
 refine x_m J rfl fun U J => ?_
 refine x_v J (r_ext (ex107 _) rfl (evs J rfl)) rfl fun U J => ?_
 obtain ⟨y102, h103, G⟩ := bnd G
 refine x_call' en101 J (F_real_Canon (L := L) a0.toNat h103 X) (fun v U w hR J => ?_) rfl
 obtain ⟨rfl, X⟩ := hR
 refine x_m J rfl fun U J => ?_
 refine wn (hK101 _ _ ?_)
 refine wp_ret ?_
 cases G
 refine hQ _ _ ?_
 refine lv Tryz.results91 J rfl ?_
 exact ⟨rfl, X⟩
noncomputable section
set_option linter.unusedSimpArgs false
def page_One_j1 (y103 : (Int × (List Int) × Int × Int)) (x117 : Int) : Option ((List Int) × Int) :=
  if (x117 != 0) = true then (some ([], x117)) else (some (y103.2.1, 0))
def page_One_j2 (y103 : (Int × (List Int) × Int × Int)) (b126 : Bool) : Option ((List Int) × Int) :=
  if b126 = true then (page_One_j1 y103 3) else (page_One_j1 y103 y103.2.2.2)
def page_One (a0 : (List Int)) (a1 : Int) : Option ((List Int) × Int) :=
  (page_Read a0 0).bind fun y103 => (if (y103.2.2.2 == 0) = true then (if (y103.1 != a1) = true then (page_One_j2 y103 true) else (page_One_j2 y103 (y103.2.2.1 != (a0.length : Int)))) else (page_One_j2 y103 false))
end
theorem F_page_One {r : World} {L : List HP} {w : World} {Z : Nat → Prop} {wz : World} (a0 : (List Int)) (a1 : Int) (A0 : Option Addr) (n0 : Nat) (c0 : Nat) {y : ((List Int) × Int)} (G : page_One a0 a1 = some y) (qz : Nat) (hZ : L[qz]? = some (zone Z wz)) (ha0 : Imm Z wz (kI .u8) A0 n0 c0 a0) (hG0 : Imm Z wz (kI .u32) (some ⟨0, 0, none⟩) 16 16 gl_page_table) (X : SH r (L) w) :
  Ret Tryz.prog 41 #[.slice A0 n0 c0, .int .u8 a1] w fun v w' => ∃ (B0 : Option Addr) (m0 : Nat) (d0 : Nat), v = .tuple #[(.slice B0 m0 d0), (.int .i64 y.2)] ∧ SH r (own (kI .u8) 5 B0 m0 d0 y.1 :: L) w' := by
 refine enter Tryz.func41 rfl Tryz.ntmps41 [(0, .slice A0 n0 c0), (1, .int .u8 a1)] rfl (by simp) ?_
 intro U J Qf hQ hQn
 unfold page_One at G
 refine ws fun K100 hK100 => ?_
 refine x_m J rfl fun U J => ?_
 refine x_m J rfl fun U J => ?_
 refine wn (hK100 _ _ ?_)
 refine ws fun K101 hK101 => ?_
 refine x_m J rfl fun U J => ?_
 obtain ⟨y102, h103, G⟩ := bnd G
 refine x_call' en61 J (F_page_Read (L := L) a0 0 A0 n0 c0 h103 (qz + 0) hZ ha0 hG0 X) (fun v U w hR J => ?_) rfl
 obtain ⟨B104, m105, d106, rfl, X⟩ := hR
 refine x_m J rfl fun U J => ?_
 refine x_v J (r_extract rfl (J.ev rfl) rfl) rfl fun U J => ?_
 refine x_v J (r_extract rfl (J.ev rfl) rfl) rfl fun U J => ?_
 refine x_v J (r_extract rfl (J.ev rfl) rfl) rfl fun U J => ?_
 refine x_v J (r_extract rfl (J.ev rfl) rfl) rfl fun U J => ?_
 refine x_m J rfl fun U J => ?_
 refine x_m J rfl fun U J => ?_
 refine x_m J rfl fun U J => ?_
 refine x_m J rfl fun U J => ?_
 refine wn (hK101 _ _ ?_)
 refine wp_seq_k fun K107 hK107 => ?_
 have hj1 : ∀ (x108 : Int), page_One_j1 y102 x108 = some y → ∀ (U : Act) (w : World), FR 34 [] U [(7, .slice B104 m105 d106), (9, .int .i64 x108)] → SH r (own (kI .u8) 5 B104 m105 d106 y102.2.1 :: L) w → K107 U w := by
  intro x108 G U w J X
  unfold page_One_j1 at G
  refine hK107 _ _ ?_
  refine wp_seq_k fun K109 hK109 => ?_
  refine ws fun K110 hK110 => ?_
  refine x_m J rfl fun U J => ?_
  refine x_v J (r_neI rfl (J.ev rfl) (J.ev rfl)) rfl fun U J => ?_
  refine wn (hK110 _ _ ?_)
  refine c_if J rfl (fun hb111 => ?_) fun hb111 => ?_
  ·replace G := ift hb111 G
   refine ws fun K112 hK112 => ?_
   refine x_m J rfl fun U J => ?_
   refine x_m J rfl fun U J => ?_
   refine x_m J rfl fun U J => ?_
   refine wn (hK112 _ _ ?_)
   refine wp_ret ?_
   replace X := SH.nil_own (d := (kI .u8)) (e := 5) X
   replace X := X.drop 1
   cases G
   refine hQ _ _ ?_
   refine lv2 Tryz.results41 J rfl rfl ?_
   exact ⟨none, 0, 0, rfl, X⟩
  replace G := iff' hb111 G
  refine wp_skip ?_
  refine hK109 _ _ ?_
  refine ws fun K113 hK113 => ?_
  refine x_m J rfl fun U J => ?_
  refine x_m J rfl fun U J => ?_
  refine x_m J rfl fun U J => ?_
  refine wn (hK113 _ _ ?_)
  refine wp_ret ?_
  cases G
  refine hQ _ _ ?_
  refine lv2 Tryz.results41 J rfl rfl ?_
  exact ⟨B104, m105, d106, rfl, X⟩
 refine wp_seq_k fun K114 hK114 => ?_
 have hj2 : ∀ (b115 : Bool), page_One_j2 y102 b115 = some y → ∀ (U : Act) (w : World), FR 34 [] U [(7, .slice B104 m105 d106), (9, .int .i64 y102.2.2.2), (29, .bool b115)] → SH r (own (kI .u8) 5 B104 m105 d106 y102.2.1 :: L) w → K114 U w := by
  intro b115 G U w J X
  unfold page_One_j2 at G
  refine hK114 _ _ ?_
  refine c_if J rfl (fun hb116 => ?_) fun hb116 => ?_
  ·replace G := ift hb116 G
   refine wp_reg ?_
   refine x_m J rfl fun U J => ?_
   refine wpList_nil ?_
   exact hj1 3 G U w (J.sub _ rfl) X
  replace G := iff' hb116 G
  refine wp_skip ?_
  exact hj1 y102.2.2.2 G U w (J.sub _ rfl) X
 refine wp_reg ?_
 refine x_m J rfl fun U J => ?_
 refine x_v J (r_eqI rfl (J.ev rfl) (J.ev rfl)) rfl fun U J => ?_
 refine x_m J rfl fun U J => ?_
 refine bcase (b := y102.2.2.2 == 0) (fun hb117 => ?_) fun hb117 => ?_
 ·replace G := ift hb117 G
  refine x_on' hb117 J ?_ rfl
  refine x_m J rfl fun U J => ?_
  refine x_on' hb117 J ?_ rfl
  refine x_m J rfl fun U J => ?_
  refine x_on' hb117 J ?_ rfl
  refine x_v J (r_neI rfl (J.ev rfl) (J.ev rfl)) rfl fun U J => ?_
  refine x_on' hb117 J ?_ rfl
  refine x_m J rfl fun U J => ?_
  refine bcase (b := y102.1 != a1) (fun hb118 => ?_) fun hb118 => ?_
  ·replace G := ift hb118 G
   refine xO 4 hb118 J rfl fun U J => ?_
   refine x_on' hb117 J ?_ rfl
   refine x_pickt' hb118 J (fun U J => ?_) rfl
   refine x_pickt' hb117 J (fun U J => ?_) rfl
   refine wpList_nil ?_
   exact hj2 true G U w (J.sub _ rfl) X
  replace G := iff' hb118 G
  refine x_on' hb118 J ?_ rfl
  refine x_m J rfl fun U J => ?_
  refine x_on' hb118 J ?_ rfl
  refine x_m J rfl fun U J => ?_
  refine x_on' hb118 J ?_ rfl
  refine x_len' uu29 (X.rdl 1 (ha0.rdl qz hZ) rfl).2.1 J (fun U J => ?_) rfl
  refine x_on' hb118 J ?_ rfl
  refine x_v J (r_neI rfl (J.ev rfl) (J.ev rfl)) rfl fun U J => ?_
  refine x_on' hb117 J ?_ rfl
  refine x_pickf' hb118 J (fun U J => ?_) rfl
  refine x_pickt' hb117 J (fun U J => ?_) rfl
  refine wpList_nil ?_
  exact hj2 (y102.2.2.1 != (a0.length : Int)) G U w (J.sub _ rfl) X
 replace G := iff' hb117 G
 refine xO 4 hb117 J rfl fun U J => ?_
 refine x_offU' J (fun U J => ?_) rfl
 refine x_offU' J (fun U J => ?_) rfl
 refine x_offU' J (fun U J => ?_) rfl
 refine x_offU' J (fun U J => ?_) rfl
 refine xO 1 hb117 J rfl fun U J => ?_
 refine x_pickf' hb117 J (fun U J => ?_) rfl
 refine wpList_nil ?_
 exact hj2 false G U w (J.sub _ rfl) X
noncomputable section
set_option linter.unusedSimpArgs false
def agg_LayValue_j1 (a1 : S59) (y111 : ((List Int))) (x120 : Int) : Option ((List Int)) :=
  (column_Uint y111 x120).bind fun y122 => ((real_Bits a1.f3).bind fun y127 => ((column_Uint y122 y127).bind fun y129 => ((real_Bits a1.f4).bind fun y134 => ((column_Uint y129 y134).bind fun y136 => (some y136)))))
def agg_LayValue (a0 : (List Int)) (a1 : S59) : Option ((List Int)) :=
  (column_Uint a0 a1.f0).bind fun y104 => ((real_Bits a1.f1).bind fun y109 => ((column_Uint y104 y109).bind fun y111 => (if a1.f2 = true then (agg_LayValue_j1 a1 y111 1) else (agg_LayValue_j1 a1 y111 0))))
def agg_number (a0 : S121) : Option ((Nat × S121) ⊕ (S121)) :=
  (column_Reader_Uint a0 18446744073709551615).bind fun y107 => (sum_ y107 (fun y107 => ((real_Of y107.1).bind fun y118 => ((real_Bits y118).bind fun y121 => ((column_Reader_Check y107.2 (y121 == y107.1)).bind fun y123 => (sum_ y123 (fun y123 => (some (.inl (y118, y123)))) (fun y123 => (some (.inr y123)))))))) (fun y107 => (some (.inr y107))))
def agg_ReadValue (a0 : S121) : Option ((S59 × S121) ⊕ (S121)) :=
  (column_Reader_Uint a0 1099511627776).bind fun y108 => (sum_ y108 (fun y108 => ((agg_number y108.2).bind fun y118 => (sum_ y118 (fun y118 => ((column_Reader_Uint y118.2 1).bind fun y130 => (sum_ y130 (fun y130 => ((agg_number y130.2).bind fun y141 => (sum_ y141 (fun y141 => ((agg_number y141.2).bind fun y151 => (sum_ y151 (fun y151 => (some (.inl ((⟨y108.1, y118.1, y130.1 == 1, y141.1, y151.1⟩ : S59), y151.2)))) (fun y151 => (some (.inr y151)))))) (fun y141 => (some (.inr y141)))))) (fun y130 => (some (.inr y130)))))) (fun y118 => (some (.inr y118)))))) (fun y108 => (some (.inr y108))))
end
theorem F_agg_LayValue {r : World} {L : List HP} {w : World} (a0 : (List Int)) (a1 : S59) (A0 : Option Addr) (n0 : Nat) (c0 : Nat) {y : ((List Int))} (G : agg_LayValue a0 a1 = some y) (X : SH r (own (kI .u8) 5 A0 n0 c0 a0 :: L) w) :
  Ret Tryz.prog 69 #[.slice A0 n0 c0, .agg #[.int .u64 a1.f0, .float .f64 a1.f1, .bool a1.f2, .float .f64 a1.f3, .float .f64 a1.f4]] w fun v w' => ∃ (B0 : Option Addr) (m0 : Nat) (d0 : Nat), v = .slice B0 m0 d0 ∧ SH r (own (kI .u8) 5 B0 m0 d0 y :: L) w' := by
 refine enter Tryz.func69 rfl Tryz.ntmps69 [(0, .slice A0 n0 c0), (1, .agg #[.int .u64 a1.f0, .float .f64 a1.f1, .bool a1.f2, .float .f64 a1.f3, .float .f64 a1.f4])] rfl (by simp) ?_
 intro U J Qf hQ hQn
 unfold agg_LayValue at G
 refine ws fun K100 hK100 => ?_
 refine x_box' J X (fun g101 U w X J => ?_) rfl
 refine x_m J rfl fun U J => ?_
 refine wn (hK100 _ _ ?_)
 refine wp_seq_k fun K102 hK102 => ?_
 refine wp_draw [0, 0, 2, 7, 0, 16, 63, 127, 255] [3, 6, 7] rfl J X (by kernel_rfl) (by kernel_rfl) (by kernel_rfl) (by kernel_rfl) fun w X => ?_
 refine ⟨[(0, .slice A0 n0 c0), (1, (pP g101)), (2, .int .u64 a1.f0), (4, .pointer (some ⟨g101, 1, none⟩)), (5, .float .f64 a1.f1)], ?_⟩
 refine dF [0, 1, 2, 4, 5] [3] (by kernel_rfl) ⟨pm rfl, pt [(3, (pP g101))] rfl (fun U J => y_fab fa59_0 J rfl rfl), pt [(7, (pP g101))] rfl (fun U J => y_ld uu30 (X.cell 0 rfl 0 _ rfl) J rfl rfl rfl), pt [(3, (pP g101))] rfl (fun U J => y_fab fa59_1 J rfl rfl), pt [(10, .pointer (some ⟨g101, 1, none⟩))] rfl (fun U J => y_ld uu57 (X.cell 0 rfl 1 _ rfl) J rfl rfl rfl), trivial⟩ ⟨et [(6, .slice A0 n0 c0), (8, .int .u64 a1.f0)] rfl (fun U J K hK => ?_), trivial⟩
 replace X := X.pk 1
 obtain ⟨y103, h104, G⟩ := bnd G
 refine z_call' en50 J (F_column_Uint (L := blk g101 59 [.int .u64 a1.f0, .float .f64 a1.f1, .bool a1.f2, .float .f64 a1.f3, .float .f64 a1.f4] :: L) a0 a1.f0 A0 n0 c0 h104 X) (fun v w hR => ?_) rfl
 obtain ⟨B105, m106, d107, rfl, X⟩ := hR
 refine hK _ [] _ rfl ?_
 refine dF [4, 5] [6] (by kernel_rfl) ⟨pt [(3, (pP g101))] rfl (fun U J => y_fab fa59_1 J rfl rfl), pt [(10, .pointer (some ⟨g101, 1, none⟩))] rfl (fun U J => y_ld uu57 (X.cell 1 rfl 1 _ rfl) J rfl rfl rfl), trivial⟩ ⟨et [(11, .float .f64 a1.f1)] rfl (fun U J K hK => ?_), trivial⟩
 obtain ⟨y108, h109, G⟩ := bnd G
 refine z_call' en86 J (F_real_Bits (L := own (kI .u8) 5 B105 m106 d107 y103 :: blk g101 59 [.int .u64 a1.f0, .float .f64 a1.f1, .bool a1.f2, .float .f64 a1.f3, .float .f64 a1.f4] :: L) a1.f1 h109 X) (fun v w hR => ?_) rfl
 obtain ⟨rfl, X⟩ := hR
 refine hK _ [] _ rfl ?_
 refine dF [] [7] (by kernel_rfl) trivial ⟨et [(9, .slice B105 m106 d107), (12, .int .u64 y108)] rfl (fun U J K hK => ?_), trivial⟩
 obtain ⟨y110, h111, G⟩ := bnd G
 refine z_call' en50 J (F_column_Uint (L := blk g101 59 [.int .u64 a1.f0, .float .f64 a1.f1, .bool a1.f2, .float .f64 a1.f3, .float .f64 a1.f4] :: L) y103 y108 B105 m106 d107 h111 X) (fun v w hR => ?_) rfl
 obtain ⟨B112, m113, d114, rfl, X⟩ := hR
 refine hK _ [(8, .slice B112 m113 d114)] _ rfl ?_
 refine dEnd [8] (by kernel_rfl) ⟨pm rfl, trivial⟩ ⟨by kernel_rfl, by kernel_rfl⟩ [(0, .slice B112 m113 d114), (3, (pP g101))] rfl (fun U J => ?_)
 refine hK102 _ _ ?_
 refine ws fun K115 hK115 => ?_
 refine x_m J rfl fun U J => ?_
 refine wn (hK115 _ _ ?_)
 refine wp_seq_k fun K116 hK116 => ?_
 have hj1 : ∀ (x117 : Int), agg_LayValue_j1 a1 y110 x117 = some y → ∀ (U : Act) (w : World), FR 27 [] U [(0, .slice B112 m113 d114), (3, (pP g101)), (5, .int .u64 x117)] → SH r (blk g101 59 [.int .u64 a1.f0, .float .f64 a1.f1, .bool a1.f2, .float .f64 a1.f3, .float .f64 a1.f4] :: own (kI .u8) 5 B112 m113 d114 y110 :: L) w → K116 U w := by
  intro x117 G U w J X
  unfold agg_LayValue_j1 at G
  refine hK116 _ _ ?_
  refine wp_seq_k fun K118 hK118 => ?_
  refine wp_draw [0, 0, 3, 0, 8, 31, 63, 0, 128, 511, 1023, 2047] [2, 5, 6, 9, 10] rfl J X (by kernel_rfl) (by kernel_rfl) (by kernel_rfl) (by kernel_rfl) fun w X => ?_
  refine ⟨[(0, .slice B112 m113 d114), (1, .int .u64 x117), (3, .pointer (some ⟨g101, 3, none⟩)), (4, .float .f64 a1.f3), (7, .pointer (some ⟨g101, 4, none⟩)), (8, .float .f64 a1.f4)], ?_⟩
  refine dF [0, 1, 3, 4, 7, 8] [2] (by kernel_rfl) ⟨pm rfl, pm rfl, pt [(3, (pP g101))] rfl (fun U J => y_fab fa59_3 J rfl rfl), pt [(19, .pointer (some ⟨g101, 3, none⟩))] rfl (fun U J => y_ld uu57 (X.cell 0 rfl 3 _ rfl) J rfl rfl rfl), pt [(3, (pP g101))] rfl (fun U J => y_fab fa59_4 J rfl rfl), pt [(23, .pointer (some ⟨g101, 4, none⟩))] rfl (fun U J => y_ld uu57 (X.cell 0 rfl 4 _ rfl) J rfl rfl rfl), trivial⟩ ⟨et [(16, .slice B112 m113 d114), (17, .int .u64 x117)] rfl (fun U J K hK => ?_), trivial⟩
  replace X := X.pk 1
  obtain ⟨y119, h120, G⟩ := bnd G
  refine z_call' en50 J (F_column_Uint (L := blk g101 59 [.int .u64 a1.f0, .float .f64 a1.f1, .bool a1.f2, .float .f64 a1.f3, .float .f64 a1.f4] :: L) y110 x117 B112 m113 d114 h120 X) (fun v w hR => ?_) rfl
  obtain ⟨B121, m122, d123, rfl, X⟩ := hR
  refine hK _ [] _ rfl ?_
  refine dF [3, 4, 7, 8] [5] (by kernel_rfl) ⟨pt [(3, (pP g101))] rfl (fun U J => y_fab fa59_3 J rfl rfl), pt [(19, .pointer (some ⟨g101, 3, none⟩))] rfl (fun U J => y_ld uu57 (X.cell 1 rfl 3 _ rfl) J rfl rfl rfl), pt [(3, (pP g101))] rfl (fun U J => y_fab fa59_4 J rfl rfl), pt [(23, .pointer (some ⟨g101, 4, none⟩))] rfl (fun U J => y_ld uu57 (X.cell 1 rfl 4 _ rfl) J rfl rfl rfl), trivial⟩ ⟨et [(20, .float .f64 a1.f3)] rfl (fun U J K hK => ?_), trivial⟩
  obtain ⟨y124, h125, G⟩ := bnd G
  refine z_call' en86 J (F_real_Bits (L := own (kI .u8) 5 B121 m122 d123 y119 :: blk g101 59 [.int .u64 a1.f0, .float .f64 a1.f1, .bool a1.f2, .float .f64 a1.f3, .float .f64 a1.f4] :: L) a1.f3 h125 X) (fun v w hR => ?_) rfl
  obtain ⟨rfl, X⟩ := hR
  refine hK _ [] _ rfl ?_
  refine dF [7, 8] [6] (by kernel_rfl) ⟨pt [(3, (pP g101))] rfl (fun U J => y_fab fa59_4 J rfl rfl), pt [(23, .pointer (some ⟨g101, 4, none⟩))] rfl (fun U J => y_ld uu57 (X.cell 1 rfl 4 _ rfl) J rfl rfl rfl), trivial⟩ ⟨et [(18, .slice B121 m122 d123), (21, .int .u64 y124)] rfl (fun U J K hK => ?_), trivial⟩
  obtain ⟨y126, h127, G⟩ := bnd G
  refine z_call' en50 J (F_column_Uint (L := blk g101 59 [.int .u64 a1.f0, .float .f64 a1.f1, .bool a1.f2, .float .f64 a1.f3, .float .f64 a1.f4] :: L) y119 y124 B121 m122 d123 h127 X) (fun v w hR => ?_) rfl
  obtain ⟨B128, m129, d130, rfl, X⟩ := hR
  refine hK _ [] _ rfl ?_
  refine dF [7, 8] [9] (by kernel_rfl) ⟨pt [(3, (pP g101))] rfl (fun U J => y_fab fa59_4 J rfl rfl), pt [(23, .pointer (some ⟨g101, 4, none⟩))] rfl (fun U J => y_ld uu57 (X.cell 1 rfl 4 _ rfl) J rfl rfl rfl), trivial⟩ ⟨et [(24, .float .f64 a1.f4)] rfl (fun U J K hK => ?_), trivial⟩
  obtain ⟨y131, h132, G⟩ := bnd G
  refine z_call' en86 J (F_real_Bits (L := own (kI .u8) 5 B128 m129 d130 y126 :: blk g101 59 [.int .u64 a1.f0, .float .f64 a1.f1, .bool a1.f2, .float .f64 a1.f3, .float .f64 a1.f4] :: L) a1.f4 h132 X) (fun v w hR => ?_) rfl
  obtain ⟨rfl, X⟩ := hR
  refine hK _ [] _ rfl ?_
  refine dF [] [10] (by kernel_rfl) trivial ⟨et [(22, .slice B128 m129 d130), (25, .int .u64 y131)] rfl (fun U J K hK => ?_), trivial⟩
  obtain ⟨y133, h134, G⟩ := bnd G
  refine z_call' en50 J (F_column_Uint (L := blk g101 59 [.int .u64 a1.f0, .float .f64 a1.f1, .bool a1.f2, .float .f64 a1.f3, .float .f64 a1.f4] :: L) y126 y131 B128 m129 d130 h134 X) (fun v w hR => ?_) rfl
  obtain ⟨B135, m136, d137, rfl, X⟩ := hR
  refine hK _ [(11, .slice B135 m136 d137)] _ rfl ?_
  refine dEnd [11] (by kernel_rfl) ⟨pm rfl, trivial⟩ ⟨by kernel_rfl, by kernel_rfl⟩ [(4, .slice B135 m136 d137)] rfl (fun U J => ?_)
  refine hK118 _ _ ?_
  refine wp_ret ?_
  replace X := X.drop 1
  cases G
  refine hQ _ _ ?_
  refine lv Tryz.results69 J rfl ?_
  exact ⟨B135, m136, d137, rfl, X⟩
 refine ws fun K138 hK138 => ?_
 refine x_fab' fa59_2 J (fun U J => ?_) rfl
 refine x_ld' uu4 (X.cell 1 rfl 2 _ rfl) J (fun U J => ?_) rfl
 refine wn (hK138 _ _ ?_)
 refine c_if J rfl (fun hb139 => ?_) fun hb139 => ?_
 ·replace G := ift hb139 G
  refine wp_reg ?_
  refine x_m J rfl fun U J => ?_
  refine wpList_nil ?_
  replace X := X.pk 1
  exact hj1 1 G U w (J.sub _ rfl) X
 replace G := iff' hb139 G
 refine wp_skip ?_
 replace X := X.pk 1
 exact hj1 0 G U w (J.sub _ rfl) X
theorem F_agg_number {r : World} {L : List HP} {w : World} {Z : Nat → Prop} {wz : World} (a0 : S121) (g0 : Nat) {y : ((Nat × S121) ⊕ (S121))} (G : agg_number a0 = some y) (qz : Nat) (hZ : L[qz]? = some (zone Z wz)) (X : SH r (obj121 Z wz g0 a0 :: L) w) :
  RetS Tryz.prog 74 #[.pointer (some ⟨g0, 0, none⟩)] w badC y (fun y v w' => v = .float .f64 y.1 ∧ SH r (obj121 Z wz g0 y.2 :: L) w') (fun y w' => SH r (obj121 Z wz g0 y :: L) w') := by
 refine enterS Tryz.func74 rfl Tryz.ntmps74 [(0, (pP g0))] rfl (by simp) ?_
 intro U J Qf hQ hQn hQp
 unfold agg_number at G
 obtain ⟨A100, n101, c102, X⟩ := obj121_open X
 obtain ⟨h103, X⟩ := (X.pk 1).unpure
 refine ws fun K104 hK104 => ?_
 refine x_m J rfl fun U J => ?_
 refine wn (hK104 _ _ ?_)
 refine ws fun K105 hK105 => ?_
 refine x_m J rfl fun U J => ?_
 replace X := SH.pure_ h103 X
 replace X := X.pk 1
 replace X := obj121_mk (x := a0) X
 obtain ⟨y106, h107, G⟩ := bnd G
 rcases y106 with y106 | y106
 rotate_left
 ·replace G := sum_r G
  refine x_callp' (vs := #[.pointer (some ⟨g0, 0, none⟩), .int .u64 18446744073709551615]) en44 J (RetS.rf (F_column_Reader_Uint (L := L) a0 18446744073709551615 g0 h107 (qz + 0) hZ X)) (fun w hR => ?_) rfl
  replace X := hR
  obtain ⟨A108, n109, c110, X⟩ := obj121_open X
  obtain ⟨h111, X⟩ := (X.pk 1).unpure
  replace X := SH.pure_ h111 X
  replace X := X.pk 1
  replace X := obj121_mk (x := y106) X
  cases G
  exact hQp _ rfl _ _ J.defers X
 replace G := sum_l G
 refine x_callw' (vs := #[.pointer (some ⟨g0, 0, none⟩), .int .u64 18446744073709551615]) en44 J (RetS.lf (F_column_Reader_Uint (L := L) a0 18446744073709551615 g0 h107 (qz + 0) hZ X)) (fun v U w hR J => ?_) rfl
 obtain ⟨rfl, X⟩ := hR
 obtain ⟨A112, n113, c114, X⟩ := obj121_open X
 obtain ⟨h115, X⟩ := (X.pk 1).unpure
 refine x_m J rfl fun U J => ?_
 refine wn (hK105 _ _ ?_)
 refine ws fun K116 hK116 => ?_
 refine x_m J rfl fun U J => ?_
 obtain ⟨y117, h118, G⟩ := bnd G
 refine x_call' en91 J (F_real_Of (L := blk g0 121 [.slice A112 n113 c114] :: L) y106.1 h118 X) (fun v U w hR J => ?_) rfl
 obtain ⟨rfl, X⟩ := hR
 refine x_m J rfl fun U J => ?_
 refine wn (hK116 _ _ ?_)
 refine ws fun K119 hK119 => ?_
 refine x_m J rfl fun U J => ?_
 refine x_m J rfl fun U J => ?_
 obtain ⟨y120, h121, G⟩ := bnd G
 refine x_call' en86 J (F_real_Bits (L := blk g0 121 [.slice A112 n113 c114] :: L) y117 h121 X) (fun v U w hR J => ?_) rfl
 obtain ⟨rfl, X⟩ := hR
 refine x_m J rfl fun U J => ?_
 refine x_v J (r_eqI rfl (J.ev rfl) (J.ev rfl)) rfl fun U J => ?_
 replace X := SH.pure_ h115 X
 replace X := X.pk 1
 replace X := obj121_mk (x := y106.2) X
 obtain ⟨y122, h123, G⟩ := bnd G
 rcases y122 with y122 | y122
 rotate_left
 ·replace G := sum_r G
  refine x_callp' (vs := #[.pointer (some ⟨g0, 0, none⟩), .bool (y120 == y106.1)]) en55 J (RetS.rf (F_column_Reader_Check (L := L) y106.2 (y120 == y106.1) g0 h123 (qz + 0) hZ X)) (fun w hR => ?_) rfl
  replace X := hR
  obtain ⟨A124, n125, c126, X⟩ := obj121_open X
  obtain ⟨h127, X⟩ := (X.pk 1).unpure
  replace X := SH.pure_ h127 X
  replace X := X.pk 1
  replace X := obj121_mk (x := y122) X
  cases G
  exact hQp _ rfl _ _ J.defers X
 replace G := sum_l G
 refine x_callw' (vs := #[.pointer (some ⟨g0, 0, none⟩), .bool (y120 == y106.1)]) en55 J (RetS.lf (F_column_Reader_Check (L := L) y106.2 (y120 == y106.1) g0 h123 (qz + 0) hZ X)) (fun v U w hR J => ?_) rfl
 obtain ⟨rfl, X⟩ := hR
 obtain ⟨A128, n129, c130, X⟩ := obj121_open X
 obtain ⟨h131, X⟩ := (X.pk 1).unpure
 refine wn (hK119 _ _ ?_)
 refine ws fun K132 hK132 => ?_
 refine x_m J rfl fun U J => ?_
 refine x_m J rfl fun U J => ?_
 refine wn (hK132 _ _ ?_)
 refine wp_ret ?_
 replace X := SH.pure_ h131 X
 replace X := X.pk 1
 replace X := obj121_mk (x := y122) X
 cases G
 refine hQ _ rfl _ _ ?_
 refine lv Tryz.results74 J rfl ?_
 exact ⟨rfl, X⟩
theorem F_agg_ReadValue {r : World} {L : List HP} {w : World} {Z : Nat → Prop} {wz : World} (a0 : S121) (g0 : Nat) {y : ((S59 × S121) ⊕ (S121))} (G : agg_ReadValue a0 = some y) (qz : Nat) (hZ : L[qz]? = some (zone Z wz)) (X : SH r (obj121 Z wz g0 a0 :: L) w) :
  RetS Tryz.prog 58 #[.pointer (some ⟨g0, 0, none⟩)] w badC y (fun y v w' => v = .agg #[.int .u64 y.1.f0, .float .f64 y.1.f1, .bool y.1.f2, .float .f64 y.1.f3, .float .f64 y.1.f4] ∧ SH r (obj121 Z wz g0 y.2 :: L) w') (fun y w' => SH r (obj121 Z wz g0 y :: L) w') := by
 refine enterS Tryz.func58 rfl Tryz.ntmps58 [(0, (pP g0))] rfl (by simp) ?_
 intro U J Qf hQ hQn hQp
 unfold agg_ReadValue at G
 obtain ⟨A100, n101, c102, X⟩ := obj121_open X
 obtain ⟨h103, X⟩ := (X.pk 1).unpure
 refine ws fun K104 hK104 => ?_
 refine x_alloc' (cs := [.int .u64 0, .float .f64 0, .bool false, .float .f64 0, .float .f64 0]) zr59 J X (fun g105 U w X J => ?_) rfl
 refine wn (hK104 _ _ ?_)
 refine ws fun K106 hK106 => ?_
 refine x_m J rfl fun U J => ?_
 replace X := SH.pure_ h103 X
 replace X := X.pk 2
 replace X := obj121_mk (x := a0) X
 obtain ⟨y107, h108, G⟩ := bnd G
 rcases y107 with y107 | y107
 rotate_left
 ·replace G := sum_r G
  refine x_callp' (vs := #[.pointer (some ⟨g0, 0, none⟩), .int .u64 1099511627776]) en44 J (RetS.rf (F_column_Reader_Uint (L := blk g105 59 [.int .u64 0, .float .f64 0, .bool false, .float .f64 0, .float .f64 0] :: L) a0 1099511627776 g0 h108 (qz + 1) hZ X)) (fun w hR => ?_) rfl
  replace X := hR
  obtain ⟨A109, n110, c111, X⟩ := obj121_open X
  obtain ⟨h112, X⟩ := (X.pk 1).unpure
  replace X := SH.pure_ h112 X
  replace X := X.pk 1
  replace X := obj121_mk (x := y107) X
  replace X := X.drop 1
  cases G
  exact hQp _ rfl _ _ J.defers X
 replace G := sum_l G
 refine x_callw' (vs := #[.pointer (some ⟨g0, 0, none⟩), .int .u64 1099511627776]) en44 J (RetS.lf (F_column_Reader_Uint (L := blk g105 59 [.int .u64 0, .float .f64 0, .bool false, .float .f64 0, .float .f64 0] :: L) a0 1099511627776 g0 h108 (qz + 1) hZ X)) (fun v U w hR J => ?_) rfl
 obtain ⟨rfl, X⟩ := hR
 obtain ⟨A113, n114, c115, X⟩ := obj121_open X
 obtain ⟨h116, X⟩ := (X.pk 1).unpure
 refine x_m J rfl fun U J => ?_
 replace X := SH.pure_ h116 X
 replace X := X.pk 1
 replace X := obj121_mk (x := y107.2) X
 obtain ⟨y117, h118, G⟩ := bnd G
 rcases y117 with y117 | y117
 rotate_left
 ·replace G := sum_r G
  refine x_callp' (vs := #[.pointer (some ⟨g0, 0, none⟩)]) en74 J (RetS.rf (F_agg_number (L := blk g105 59 [.int .u64 0, .float .f64 0, .bool false, .float .f64 0, .float .f64 0] :: L) y107.2 g0 h118 (qz + 1) hZ X)) (fun w hR => ?_) rfl
  replace X := hR
  obtain ⟨A119, n120, c121, X⟩ := obj121_open X
  obtain ⟨h122, X⟩ := (X.pk 1).unpure
  replace X := SH.pure_ h122 X
  replace X := X.pk 1
  replace X := obj121_mk (x := y117) X
  replace X := X.drop 1
  cases G
  exact hQp _ rfl _ _ J.defers X
 replace G := sum_l G
 refine x_callw' (vs := #[.pointer (some ⟨g0, 0, none⟩)]) en74 J (RetS.lf (F_agg_number (L := blk g105 59 [.int .u64 0, .float .f64 0, .bool false, .float .f64 0, .float .f64 0] :: L) y107.2 g0 h118 (qz + 1) hZ X)) (fun v U w hR J => ?_) rfl
 obtain ⟨rfl, X⟩ := hR
 obtain ⟨A123, n124, c125, X⟩ := obj121_open X
 obtain ⟨h126, X⟩ := (X.pk 1).unpure
 refine x_v (v := .agg #[.int .u64 y107.1, .float .f64 y117.1, .bool false, .float .f64 0, .float .f64 0]) J (r_build (ps := #[(0, .int .u64 y107.1), (1, .float .f64 y117.1)]) rfl (mapev2 J rfl) (fun w => by kernel_rfl)) rfl fun U J => ?_
 refine x_alloc' (cs := [.int .u64 0, .float .f64 0, .bool false, .float .f64 0, .float .f64 0]) zr59 J X (fun g127 U w X J => ?_) rfl
 refine x_stb' 0 sz59 J X rfl (fun  U w X J => ?_) rfl
 refine wn (hK106 _ _ ?_)
 refine ws fun K128 hK128 => ?_
 refine x_m J rfl fun U J => ?_
 replace X := SH.pure_ h126 X
 replace X := X.pk 2
 replace X := obj121_mk (x := y117.2) X
 obtain ⟨y129, h130, G⟩ := bnd G
 rcases y129 with y129 | y129
 rotate_left
 ·replace G := sum_r G
  refine x_callp' (vs := #[.pointer (some ⟨g0, 0, none⟩), .int .u64 1]) en44 J (RetS.rf (F_column_Reader_Uint (L := blk g127 59 [.int .u64 y107.1, .float .f64 y117.1, .bool false, .float .f64 0, .float .f64 0] :: blk g105 59 [.int .u64 0, .float .f64 0, .bool false, .float .f64 0, .float .f64 0] :: L) y117.2 1 g0 h130 (qz + 2) hZ X)) (fun w hR => ?_) rfl
  replace X := hR
  obtain ⟨A131, n132, c133, X⟩ := obj121_open X
  obtain ⟨h134, X⟩ := (X.pk 1).unpure
  replace X := SH.pure_ h134 X
  replace X := X.pk 1
  replace X := obj121_mk (x := y129) X
  replace X := X.drop 1 |>.drop 1
  cases G
  exact hQp _ rfl _ _ J.defers X
 replace G := sum_l G
 refine x_callw' (vs := #[.pointer (some ⟨g0, 0, none⟩), .int .u64 1]) en44 J (RetS.lf (F_column_Reader_Uint (L := blk g127 59 [.int .u64 y107.1, .float .f64 y117.1, .bool false, .float .f64 0, .float .f64 0] :: blk g105 59 [.int .u64 0, .float .f64 0, .bool false, .float .f64 0, .float .f64 0] :: L) y117.2 1 g0 h130 (qz + 2) hZ X)) (fun v U w hR J => ?_) rfl
 obtain ⟨rfl, X⟩ := hR
 obtain ⟨A135, n136, c137, X⟩ := obj121_open X
 obtain ⟨h138, X⟩ := (X.pk 1).unpure
 refine x_v J (r_eqI rfl (J.ev rfl) (J.ev rfl)) rfl fun U J => ?_
 refine x_fab' fa59_2 J (fun U J => ?_) rfl
 refine x_stb' 1 sz4 J X rfl (fun  U w X J => ?_) rfl
 refine wn (hK128 _ _ ?_)
 refine ws fun K139 hK139 => ?_
 refine x_m J rfl fun U J => ?_
 replace X := SH.pure_ h138 X
 replace X := X.pk 2
 replace X := obj121_mk (x := y129.2) X
 obtain ⟨y140, h141, G⟩ := bnd G
 rcases y140 with y140 | y140
 rotate_left
 ·replace G := sum_r G
  refine x_callp' (vs := #[.pointer (some ⟨g0, 0, none⟩)]) en74 J (RetS.rf (F_agg_number (L := blk g127 59 [.int .u64 y107.1, .float .f64 y117.1, .bool (y129.1 == 1), .float .f64 0, .float .f64 0] :: blk g105 59 [.int .u64 0, .float .f64 0, .bool false, .float .f64 0, .float .f64 0] :: L) y129.2 g0 h141 (qz + 2) hZ X)) (fun w hR => ?_) rfl
  replace X := hR
  obtain ⟨A142, n143, c144, X⟩ := obj121_open X
  obtain ⟨h145, X⟩ := (X.pk 1).unpure
  replace X := SH.pure_ h145 X
  replace X := X.pk 1
  replace X := obj121_mk (x := y140) X
  replace X := X.drop 1 |>.drop 1
  cases G
  exact hQp _ rfl _ _ J.defers X
 replace G := sum_l G
 refine x_callw' (vs := #[.pointer (some ⟨g0, 0, none⟩)]) en74 J (RetS.lf (F_agg_number (L := blk g127 59 [.int .u64 y107.1, .float .f64 y117.1, .bool (y129.1 == 1), .float .f64 0, .float .f64 0] :: blk g105 59 [.int .u64 0, .float .f64 0, .bool false, .float .f64 0, .float .f64 0] :: L) y129.2 g0 h141 (qz + 2) hZ X)) (fun v U w hR J => ?_) rfl
 obtain ⟨rfl, X⟩ := hR
 obtain ⟨A146, n147, c148, X⟩ := obj121_open X
 obtain ⟨h149, X⟩ := (X.pk 1).unpure
 refine x_m J rfl fun U J => ?_
 replace X := SH.pure_ h149 X
 replace X := X.pk 1
 replace X := obj121_mk (x := y140.2) X
 obtain ⟨y150, h151, G⟩ := bnd G
 rcases y150 with y150 | y150
 rotate_left
 ·replace G := sum_r G
  refine x_callp' (vs := #[.pointer (some ⟨g0, 0, none⟩)]) en74 J (RetS.rf (F_agg_number (L := blk g127 59 [.int .u64 y107.1, .float .f64 y117.1, .bool (y129.1 == 1), .float .f64 0, .float .f64 0] :: blk g105 59 [.int .u64 0, .float .f64 0, .bool false, .float .f64 0, .float .f64 0] :: L) y140.2 g0 h151 (qz + 2) hZ X)) (fun w hR => ?_) rfl
  replace X := hR
  obtain ⟨A152, n153, c154, X⟩ := obj121_open X
  obtain ⟨h155, X⟩ := (X.pk 1).unpure
  replace X := SH.pure_ h155 X
  replace X := X.pk 1
  replace X := obj121_mk (x := y150) X
  replace X := X.drop 1 |>.drop 1
  cases G
  exact hQp _ rfl _ _ J.defers X
 replace G := sum_l G
 refine x_callw' (vs := #[.pointer (some ⟨g0, 0, none⟩)]) en74 J (RetS.lf (F_agg_number (L := blk g127 59 [.int .u64 y107.1, .float .f64 y117.1, .bool (y129.1 == 1), .float .f64 0, .float .f64 0] :: blk g105 59 [.int .u64 0, .float .f64 0, .bool false, .float .f64 0, .float .f64 0] :: L) y140.2 g0 h151 (qz + 2) hZ X)) (fun v U w hR J => ?_) rfl
 obtain ⟨rfl, X⟩ := hR
 obtain ⟨A156, n157, c158, X⟩ := obj121_open X
 obtain ⟨h159, X⟩ := (X.pk 1).unpure
 refine x_fab' fa59_3 J (fun U J => ?_) rfl
 refine x_stb' 1 sz57 J X rfl (fun  U w X J => ?_) rfl
 refine x_fab' fa59_4 J (fun U J => ?_) rfl
 refine x_stb' 0 sz57 J X rfl (fun  U w X J => ?_) rfl
 refine wn (hK139 _ _ ?_)
 refine ws fun K160 hK160 => ?_
 refine x_lda' (ad := ⟨g127, 0, none⟩) (cs := [.int .u64 y107.1, .float .f64 y117.1, .bool (y129.1 == 1), .float .f64 y140.1, .float .f64 y150.1]) uu59 sz59 (fun j u h => by rw [add_mk, Nat.zero_add]; exact X.cell 0 rfl j u h) J (fun U J => ?_) rfl
 refine x_stb' 2 sz59 J X rfl (fun  U w X J => ?_) rfl
 refine wn (hK160 _ _ ?_)
 refine wp_ret ?_
 have hS0 := X
 replace X := SH.pure_ h159 X
 replace X := X.pk 3
 replace X := obj121_mk (x := y150.2) X
 replace X := X.drop 1 |>.drop 1
 cases G
 refine hQ _ rfl _ _ ?_
 refine lvc1 (cs := [.int .u64 y107.1, .float .f64 y117.1, .bool (y129.1 == 1), .float .f64 y140.1, .float .f64 y150.1]) Tryz.results58 uu59 sz59 hS0 0 rfl J rfl rfl ?_
 exact ⟨rfl, X⟩
theorem catch_pan {r : World} {L : List HP} {g : Nat} {b : Bool} {w : World} (hS : SH r (blk g 4 [.bool b] :: L) w) :
    CallsD Tryz.prog 62 #[.pointer (some ⟨g, 0, none⟩)] (.panicking badC) w fun e u' w' => e = .returned (.tuple #[]) ∧ u' = .panicking [{ v := .iface 118 (.agg #[]), recovered := true }] ∧ SH r (blk g 4 [.bool false] :: L) w' := by
  refine callsD_of_wpS Tryz.func62 rfl fun c₀ cs hu => ?_
  apply wpS_seq
  apply wpS_region
  simp only [List.size_toArray, List.length_cons, List.length_nil, Nat.zero_add]
  rw [show List.range (1 + 1) = [0, 1] from rfl]
  simp [wpOpsS, go_sem, recoverD, hu, badC, Tryz.ntmps62, Exit.thenS]
  generalize hac : ({ tmps := _, defers := _ } : Act) = ac
  have hA : FR 15 [] ac [(0, .pointer (some ⟨g, 0, none⟩)), (1, .iface 118 (.agg #[]))] := by
    subst hac
    refine ⟨by simp, rfl, fun t v hv => ?_⟩
    simp only [lk] at hv
    by_cases e0 : t = 0
    · subst e0; cases hv; rfl
    by_cases e1 : t = 1
    · subst e1; cases hv; rfl
    · exfalso
      rw [show Nat.beq 0 t = false by cases h : Nat.beq 0 t; rfl; exact absurd (Nat.eq_of_beq_eq_true h).symm e0, show Nat.beq 1 t = false by cases h : Nat.beq 1 t; rfl; exact absurd (Nat.eq_of_beq_eq_true h).symm e1] at hv
      cases hv
  clear hac
  refine wpS_of_wp ?_
  have fin : ∀ (a : Act) (w : World), FR 15 [] a [] → SH r (blk g 4 [.bool false] :: L) w → bodyPostS Tryz.prog Tryz.f62 c₀ cs (fun e u' w' => e = .returned (.tuple #[]) ∧ u' = .panicking [{ v := .iface 118 (.agg #[]), recovered := true }] ∧ SH r (blk g 4 [.bool false] :: L) w') .normal a ({ c₀ with mode := .panicking [{ v := .iface 118 (.agg #[]), recovered := true }] } :: cs) w := by
    intro a w hA hS
    exact ⟨hA.defers, _, rfl, _, results_none Tryz.results62 _ _ _, rfl, rfl, hS⟩
  refine wp_seq_k fun K1 h1 => ?_
  refine wp_reg ?_
  refine x_move hA (fun ac hA => ?_)
  refine x_val (v := .bool true) hA (r_neIfNil Tryz.underlying20 rfl (hA.ev rfl) (hA.ev rfl)) (fun ac hA => ?_)
  refine wpList_nil ?_
  refine h1 _ _ ?_
  refine c_t (b := true) rfl hA ?_
  refine wp_seq_k fun K4 h4 => ?_
  refine wp_seq_k fun K2 h2 => ?_
  refine wp_reg ?_
  refine x_move hA (fun ac hA => ?_)
  refine x_val (v := .tuple #[.agg #[], .bool true]) hA (r_typeAssert Tryz.underlying118 rfl rfl (hA.ev rfl)) (fun ac hA => ?_)
  refine x_move hA (fun ac hA => ?_)
  refine x_val hA (r_extract rfl (hA.ev rfl) rfl) (fun ac hA => ?_)
  refine x_val hA (r_extract rfl (hA.ev rfl) rfl) (fun ac hA => ?_)
  refine x_alloc (cs := []) zr118 hA hS (fun g2 ac w hS hA => ?_)
  refine x_stb (vs := []) 0 sz118 hA hS rfl (fun ac w hS hA => ?_)
  refine x_assign hA (fun ac hA => ?_)
  refine wpList_nil ?_
  refine h2 _ _ ?_
  refine wp_seq_k fun K3 h3 => ?_
  refine wp_reg ?_
  refine x_move hA (fun ac hA => ?_)
  refine x_val hA (r_not rfl (hA.ev rfl)) (fun ac hA => ?_)
  refine wpList_nil ?_
  refine h3 _ _ ?_
  refine c_f (b := !true) rfl hA ?_
  refine wp_skip ?_
  refine h4 _ _ ?_
  refine wp_reg ?_
  refine x_stb (vs := [.bool false]) 1 sz4 hA hS rfl (fun ac w hS hA => ?_)
  refine wpList_nil ?_
  have hS' := hS.pk 1
  exact fin _ _ (hA.sub _ rfl) (hS'.tail)
theorem catch_idle {g : Nat} {w : World} :
    CallsD Tryz.prog 62 #[.pointer (some ⟨g, 0, none⟩)] .returning w fun e u' w' => e = .returned (.tuple #[]) ∧ u' = .returning ∧ w' = w := by
  refine callsD_of_wpS Tryz.func62 rfl fun c₀ cs hu => ?_
  apply wpS_seq
  apply wpS_region
  simp only [List.size_toArray, List.length_cons, List.length_nil, Nat.zero_add]
  rw [show List.range (1 + 1) = [0, 1] from rfl]
  simp [wpOpsS, go_sem, recoverD, hu, Tryz.ntmps62, Exit.thenS]
  generalize hac : ({ tmps := _, defers := _ } : Act) = ac
  have hA : FR 15 [] ac [(0, .pointer (some ⟨g, 0, none⟩)), (1, .nilIface)] := by
    subst hac
    refine ⟨by simp, rfl, fun t v hv => ?_⟩
    simp only [lk] at hv
    by_cases e0 : t = 0
    · subst e0; cases hv; rfl
    by_cases e1 : t = 1
    · subst e1; cases hv; rfl
    · exfalso
      rw [show Nat.beq 0 t = false by cases h : Nat.beq 0 t; rfl; exact absurd (Nat.eq_of_beq_eq_true h).symm e0, show Nat.beq 1 t = false by cases h : Nat.beq 1 t; rfl; exact absurd (Nat.eq_of_beq_eq_true h).symm e1] at hv
      cases hv
  clear hac
  refine wpS_of_wp ?_
  refine wp_seq_k fun K1 h1 => ?_
  refine wp_reg ?_
  refine x_move hA (fun ac hA => ?_)
  refine x_val (v := .bool false) hA (r_neNilIf Tryz.underlying20 rfl (hA.ev rfl)) (fun ac hA => ?_)
  refine wpList_nil ?_
  refine h1 _ _ ?_
  refine c_f (b := false) rfl hA ?_
  refine wp_skip ?_
  refine ⟨hA.defers, c₀.mode, rfl, _, results_none Tryz.results62 _ _ _, rfl, hu, rfl⟩
theorem results_bool {r : World} {L : List HP} {w : World} {g : Nat} {b : Bool} {a : Act} {n : Nat} {D : List Deferred} {F : List (Nat × Value)} (hA : FR n D a F) (h1 : lk F 4 = some (.pointer (some ⟨g, 0, none⟩))) (hS : SH r (blk g 4 [.bool b] :: L) w) :
    (results Tryz.f42 a.tmps).run Tryz.prog w = .ok (.bool b) w := by
  have e1 : a.tmps.getD 4 undef = .pointer (some ⟨g, 0, none⟩) := hA.ev (x := .tmp 4) h1
  have e1' : a.tmps[4]?.getD undef = .pointer (some ⟨g, 0, none⟩) := by rw [← Array.getD_eq_getD_getElem?]; exact e1
  have hc := hS.cell 0 rfl 0 (.bool b) rfl
  have hagg : (isAgg 4).run Tryz.prog w = .ok false w := by rw [run_isAgg_flat Tryz.underlying4]; rfl
  have hld : (loadVar 4 ⟨g, 0, none⟩).run Tryz.prog w = .ok (.bool b) w := by simp [loadVar, hagg, hc]
  simp [results, Tryz.results42, e1', asAddr, hld]
section
variable {r : World} {L : List HP} {w : World} {A : Option Addr} {n c f : Nat} {fs caps : Array Value}
theorem try_walk {R : Value → World → Prop} (hf : EN Tryz.prog f) (hS : SH r L w)
    (hret : ∀ g g4 w1, SH r (blk g 121 [.slice A n c] :: blk g4 4 [.bool false] :: L) w1 →
      (Ret Tryz.prog f (fs ++ #[.pointer (some ⟨g, 0, none⟩)] ++ caps) w1 fun v w2 => ∃ L1 A' n' c', SH r (blk g 121 [.slice A' n' c'] :: blk g4 4 [.bool false] :: L1) w2 ∧ ∀ w3, SH r L1 w3 → R (.bool ((n' : Int) == 0)) w3) ∨
      (Calls Tryz.prog f (fs ++ #[.pointer (some ⟨g, 0, none⟩)] ++ caps) w1 fun e w2 => e = .panicked badC ∧ ∃ L1, SH r (blk g4 4 [.bool false] :: L1) w2 ∧ ∀ w3, SH r L1 w3 → R (.bool false) w3)) :
    Ret Tryz.prog 42 #[.slice A n c, .func (.func f) fs caps] w R := by
  refine enterD Tryz.func42 rfl Tryz.ntmps42 [(0, .slice A n c), (1, .func (.func f) fs caps)] rfl (by simp) ?_
  intro ac hA
  refine wp_seq_k fun K0 h0 => ?_
  refine wp_reg ?_
  refine x_alloc (cs := [.bool false]) zr4 hA hS (fun g4 ac w hS hA => ?_)
  refine wpList_nil ?_
  refine h0 _ _ ?_
  refine wp_seq_k fun K1 h1 => ?_
  refine wp_reg ?_
  refine x_val hA (r_makeFunc rfl (mapev (vals := #[]) hA rfl) (mapev (vals := #[.pointer (some ⟨g4, 0, none⟩)]) hA rfl)) (fun ac hA => ?_)
  refine x_defer (vs := #[]) hA (fun ac hA => ?_)
  refine wpList_nil ?_
  refine h1 _ _ ?_
  refine wp_seq_k fun K2 h2 => ?_
  refine wp_reg ?_
  refine x_move hA (fun ac hA => ?_)
  refine x_val (v := .agg #[.slice A n c]) hA (r_build (ps := #[(0, .slice A n c)]) rfl (mapev2 hA rfl) (fun w => by kernel_rfl)) (fun ac hA => ?_)
  refine x_box hA hS (fun g ac w hS hA => ?_)
  refine x_assign hA (fun ac hA => ?_)
  refine wpList_nil ?_
  refine h2 _ _ ?_
  refine wp_seq_k fun K3 h3 => ?_
  refine wp_reg ?_
  refine x_move hA (fun ac hA => ?_)
  refine x_move hA (fun ac hA => ?_)
  rcases hret g g4 w hS with hr | hp
  · refine x_callw (vs := #[.pointer (some ⟨g, 0, none⟩)]) hf hA hr (fun v ac w hR hA => ?_)
    obtain ⟨L1, A', n', c', hS, hR⟩ := hR
    refine wpList_nil ?_
    refine h3 _ _ ?_
    refine wp_seq_k fun K4 h4 => ?_
    refine wp_reg ?_
    refine x_move hA (fun ac hA => ?_)
    refine x_val hA (r_nilCheck rfl (hA.ev rfl)) (fun ac hA => ?_)
    refine x_fab fa121_0 hA (fun ac hA => ?_)
    refine x_ld Tryz.underlying29 (hS.cell 0 rfl 0 _ rfl) hA (fun ac hA => ?_)
    refine x_val hA (r_len Tryz.underlying29 rfl (hA.ev rfl)) (fun ac hA => ?_)
    refine x_val hA (r_eqI rfl (hA.ev rfl) (hA.ev rfl)) (fun ac hA => ?_)
    refine x_stb (vs := [.bool ((n' : Int) == 0)]) 1 sz4 hA hS rfl (fun ac w hS hA => ?_)
    refine wpList_nil ?_
    refine h4 _ _ ?_
    refine wp_ret ?_
    show Leaves _ _ _ _ _ _ _
    rw [hA.defers]
    refine leaves_cons (f := 62) (args := #[.pointer (some ⟨g4, 0, none⟩)]) (by simp) (by simp [invoke, (en62 _ _ : _ = _)]) ?_
    refine CallsD.mono catch_idle ?_
    rintro e u' w' ⟨rfl, rfl, rfl⟩
    exact ⟨_, results_bool hA rfl hS, _, rfl, hR _ (hS.tail.tail)⟩
  · refine x_callp (vs := #[.pointer (some ⟨g, 0, none⟩)]) hf hA hp (fun w hR => ?_)
    obtain ⟨L1, hS, hR⟩ := hR
    show Leaves _ _ _ _ _ _ _
    rw [hA.defers]
    refine leaves_cons (f := 62) (args := #[.pointer (some ⟨g4, 0, none⟩)]) (by simp) (by simp [invoke, (en62 _ _ : _ = _)]) ?_
    refine CallsD.mono (catch_pan hS) ?_
    rintro e u' w' ⟨rfl, rfl, hS⟩
    exact ⟨_, results_bool hA rfl hS, _, rfl, hR _ hS.tail⟩
end
noncomputable section
set_option linter.unusedSimpArgs false
def ledger_Lay_b1 (l648 : (List Int)) : Option ((List Int)) :=
  (page_Lay [] 108 l648).bind fun y653 => (some y653)
def ledger_Lay_x1_0 (l777 : (List Int)) : Option ((List Int)) :=
  ledger_Lay_b1 l777
def ledger_Lay_j1 (l715 : (List Int)) (x719 : Int) (x788 : S63) (x796 : Int) : Option (((List Int) × Int) ⊕ (((List Int)))) :=
  chk (l715.length + [x796].length ≤ 140737488355328 / 1) ((column_Uint (l715 ++ [x796]) x788.f1).bind fun y803 => ((column_Text y803 x788.f2.f0).bind fun y809 => ((column_Int y809 x788.f2.f1.f0).bind fun y814 => ((column_Int y814 x788.f2.f1.f1).bind fun y819 => ((agg_LayValue y819 x788.f2.f2).bind fun y824 => (ltt (IntKind.i64.wrap (x719 + 1)) fun x829 => (some (.inl (y824, x829)))))))))
def ledger_Lay_l1 (a0 : (List S63)) (l715 : (List Int)) (x719 : Int) : Option (((List Int) × Int) ⊕ (((List Int)))) :=
  if (decide (x719 < (a0.length : Int))) = true then ((at_ a0 x719).bind fun x788 => (if x788.f0 = true then (ledger_Lay_j1 l715 x719 x788 1) else (ledger_Lay_j1 l715 x719 x788 0))) else (some (.inr (l715)))
def ledger_Lay (a0 : (List S63)) : Option ((List Int)) :=
  ltt (IntKind.u64.wrap (a0.length : Int)) fun x103 => ((column_Uint [] x103).bind fun y105 => ((loop (fun s => ledger_Lay_l1 a0 s.1 s.2) (y105, 0)).bind fun t => ledger_Lay_x1_0 t))
def ledger_Read_1_b1 (l427 : (List Int)) (l432 : (List S63)) : Option ((S121 × (List S63)) ⊕ (S121 × (List S63))) :=
  some (.inl ((⟨l427⟩ : S121), l432))
def ledger_Read_1_x1_0 (l644 : (List Int)) (l649 : (List S63)) : Option ((S121 × (List S63)) ⊕ (S121 × (List S63))) :=
  ledger_Read_1_b1 l644 l649
def ledger_Read_1_l1 (y109 : (Int × S121)) (l535 : (List Int)) (l540 : (List S63)) (x544 : Int) : Option (((List Int) × (List S63) × Int) ⊕ (((List Int) × (List S63)) ⊕ ((S121 × (List S63)) ⊕ (S121 × (List S63))))) :=
  if (decide (x544 < y109.1)) = true then ((column_Reader_Byte (⟨l535⟩ : S121)).bind fun y660 => (sum_ y660 (fun y660 => ((column_Reader_Check y660.2 (decide (y660.1 < 2))).bind fun y671 => (sum_ y671 (fun y671 => ((column_Reader_Uint y671 1099511627776).bind fun y682 => (sum_ y682 (fun y682 => ((column_Reader_Text y682.2 32).bind fun y694 => (sum_ y694 (fun y694 => ((column_Reader_Int y694.2).bind fun y705 => (sum_ y705 (fun y705 => ((column_Reader_Int y705.2).bind fun y715 => (sum_ y715 (fun y715 => ((agg_ReadValue y715.2).bind fun y726 => (sum_ y726 (fun y726 => (chk (l540.length + [(⟨y660.1 == 1, y682.1, (⟨y694.1, (⟨y705.1, y715.1⟩ : S56), y726.1⟩ : S61)⟩ : S63)].length ≤ 140737488355328 / 88) (ltt (IntKind.u64.wrap (x544 + 1)) fun x741 => (some (.inl (y726.2.f0, l540 ++ [(⟨y660.1 == 1, y682.1, (⟨y694.1, (⟨y705.1, y715.1⟩ : S56), y726.1⟩ : S61)⟩ : S63)], x741)))))) (fun y726 => (some (.inr (.inr (.inr (y726, l540))))))))) (fun y715 => (some (.inr (.inr (.inr (y715, l540))))))))) (fun y705 => (some (.inr (.inr (.inr (y705, l540))))))))) (fun y694 => (some (.inr (.inr (.inr (y694, l540))))))))) (fun y682 => (some (.inr (.inr (.inr (y682, l540))))))))) (fun y671 => (some (.inr (.inr (.inr (y671, l540))))))))) (fun y660 => (some (.inr (.inr (.inr (y660, l540)))))))) else (some (.inr (.inl (l535, l540))))
def ledger_Read_1 (a0 : S121) (a1 : (List S63)) : Option ((S121 × (List S63)) ⊕ (S121 × (List S63))) :=
  (column_Reader_Uint a0 1099511627776).bind fun y109 => (sum_ y109 (fun y109 => ((loop (fun s => ledger_Read_1_l1 y109 s.1 s.2.1 s.2.2) (y109.2.f0, a1, 0)).bind fun t => match t with | (.inl t) => ledger_Read_1_x1_0 t.1 t.2 | (.inr t) => some t)) (fun y109 => (some (.inr (y109, a1)))))
def Try_ledger_Read_1 (a0 : (List Int)) (a60 : (List S63)) : Option (Bool × (List S63)) :=
  (ledger_Read_1 (⟨a0⟩ : S121) a60).bind fun y => (sum_ y (fun y => some ((((y.1.f0.length : Int) == 0), y.2))) (fun y => some ((false, y.2))))
def ledger_Read (a0 : (List Int)) : Option ((List S63) × Int) :=
  (page_One a0 108).bind fun y103 => (if (y103.2 != 0) = true then (some ([], y103.2)) else ((Try_ledger_Read_1 y103.1 []).bind fun y120 => (if (!y120.1) = true then (some ([], 3)) else (some (y120.2, 0)))))
end
theorem F_ledger_Lay {r : World} {L : List HP} {w : World} {Z : Nat → Prop} {wz : World} (a0 : (List S63)) (A0 : Option Addr) (n0 : Nat) (c0 : Nat) {y : ((List Int))} (G : ledger_Lay a0 = some y) (qz : Nat) (hZ : L[qz]? = some (zone Z wz)) (ha0 : RdL L k63 A0 n0 c0 a0) (hG0 : Imm Z wz (kI .u32) (some ⟨0, 0, none⟩) 16 16 gl_page_table) (X : SH r (L) w) :
  Ret Tryz.prog 48 #[.slice A0 n0 c0] w fun v w' => ∃ (B0 : Option Addr) (m0 : Nat) (d0 : Nat), v = .slice B0 m0 d0 ∧ SH r (own (kI .u8) 5 B0 m0 d0 y :: L) w' := by
 refine enter Tryz.func48 rfl Tryz.ntmps48 [(0, .slice A0 n0 c0)] rfl (by simp) ?_
 intro U J Qf hQ hQn
 unfold ledger_Lay at G
 refine ws fun K100 hK100 => ?_
 refine x_m J rfl fun U J => ?_
 refine wn (hK100 _ _ ?_)
 refine ws fun K101 hK101 => ?_
 refine x_m J rfl fun U J => ?_
 refine x_len' uu31 (X.rdl 0 ha0 rfl).2.1 J (fun U J => ?_) rfl
 obtain ⟨x102, h103, G⟩ := ltt_ G
 refine x_v (v := .int .u64 x102) J (rv_i h103 (r_convI uu3 uu30 rfl (J.ev rfl))) rfl fun U J => ?_
 replace X := SH.nil_own (d := (kI .u8)) (e := 5) X
 obtain ⟨y104, h105, G⟩ := bnd G
 refine x_call' en50 J (F_column_Uint (L := L) [] x102 none 0 0 h105 X) (fun v U w hR J => ?_) rfl
 obtain ⟨B106, m107, d108, rfl, X⟩ := hR
 refine x_m J rfl fun U J => ?_
 refine wn (hK101 _ _ ?_)
 refine wp_seq_k fun K109 hK109 => ?_
 refine ws fun K110 hK110 => ?_
 refine x_m J rfl fun U J => ?_
 refine x_len' uu31 (X.rdl 1 ha0 rfl).2.1 J (fun U J => ?_) rfl
 refine x_m J rfl fun U J => ?_
 refine wn (hK110 _ _ ?_)
 refine wp_block_k fun Kx111 hKx111 => ?_
 have hb1 : ∀ (l112 : (List Int)), ledger_Lay_b1 l112 = some y → ∀ (A113 : Option Addr) (n114 : Nat) (c115 : Nat) (U : Act) (w : World), FR 49 [] U [(3, .slice A113 n114 c115)] → SH r (own (kI .u8) 5 A113 n114 c115 l112 :: L) w → Kx111 U w := by
  intro l112 G A113 n114 c115 U w J X
  unfold ledger_Lay_b1 at G
  refine hKx111 _ _ ?_
  refine hK109 _ _ ?_
  refine ws fun K116 hK116 => ?_
  refine x_m J rfl fun U J => ?_
  replace X := SH.nil_own (d := (kI .u8)) (e := 5) X
  obtain ⟨y117, h118, G⟩ := bnd G
  refine x_call' en49 J (F_page_Lay (L := own (kI .u8) 5 A113 n114 c115 l112 :: L) [] 108 l112 none 0 0 A113 n114 c115 h118 (qz + 1) hZ (RdL.own 0 rfl (X.dropN 1)) hG0 X) (fun v U w hR J => ?_) rfl
  obtain ⟨B119, m120, d121, rfl, X⟩ := hR
  refine x_m J rfl fun U J => ?_
  refine wn (hK116 _ _ ?_)
  refine wp_ret ?_
  replace X := X.drop 1
  cases G
  refine hQ _ _ ?_
  refine lv Tryz.results48 J rfl ?_
  exact ⟨B119, m120, d121, rfl, X⟩
 obtain ⟨t122, hl122, G⟩ := bnd G
 have hx122_0 : ∀ (l123 : (List Int)), (l123) = t122 → ∀ (A124 : Option Addr) (n125 : Nat) (c122 : Nat) (U : Act) (w : World), FR 49 [] U [(3, .slice A124 n125 c122)] → SH r (own (kI .u8) 5 A124 n125 c122 l123 :: L) w → Kx111 U w := by
  intro l123 ht A124 n125 c122 U w J X
  subst ht
  replace G : ledger_Lay_x1_0 l123 = some y := G
  unfold ledger_Lay_x1_0 at G
  exact hb1 l123 G A124 n125 c122 U w (J.sub _ rfl) X
 refine wp_loop_fn hl122 (fun s U w => ∃ (A126 : Option Addr) (n127 : Nat) (c128 : Nat), FR 49 [] U [(3, .slice A126 n127 c128), (11, .slice A0 n0 c0), (12, .int .i64 (a0.length : Int)), (13, .int .i64 s.2)] ∧ SH r (own (kI .u8) 5 A126 n127 c128 s.1 :: L) w) ⟨B106, m107, d108, J.sub _ rfl, X⟩ ?_
 intro N122 s122 o122 G N122_ T122_ U w hLab
 obtain ⟨l129, x130⟩ := s122
 replace G : ledger_Lay_l1 a0 l129 x130 = some o122 := G
 unfold ledger_Lay_l1 at G
 try dsimp only at hLab
 obtain ⟨A126, n127, c128, J, X⟩ := hLab
 refine ws fun K131 hK131 => ?_
 refine x_v J (r_ltI rfl (J.ev rfl) (J.ev rfl)) rfl fun U J => ?_
 refine wn (hK131 _ _ ?_)
 refine wp_seq_k fun K132 hK132 => ?_
 refine c_if J rfl (fun hb133 => ?_) fun hb133 => ?_
 ·replace G := ift hb133 G
  refine wp_skip ?_
  refine hK132 _ _ ?_
  refine wp_seq_k fun K134 hK134 => ?_
  refine wp_block_k fun Kx135 hKx135 => ?_
  refine ws fun K136 hK136 => ?_
  obtain ⟨x137, h138, G⟩ := bnd G
  refine x_ia' uu31 sz63 (X.rdl 1 ha0 rfl) h138 J (fun U J => ?_) rfl
  obtain ⟨cs, hV, hc139⟩ := el (X.rdl 1 ha0 rfl) h138
  obtain rfl := hV
  refine x_lda' (cs := [.bool x137.f0, .int .u64 x137.f1, str x137.f2.f0, .int .i64 x137.f2.f1.f0, .int .i64 x137.f2.f1.f1, .int .u64 x137.f2.f2.f0, .float .f64 x137.f2.f2.f1, .bool x137.f2.f2.f2, .float .f64 x137.f2.f2.f3, .float .f64 x137.f2.f2.f4]) uu63 sz63 (fun j u h => by rw [ea_add]; exact hc139 _ _ h) J (fun U J => ?_) rfl
  refine x_alloc' (cs := [.bool false, .int .u64 0, str [], .int .i64 0, .int .i64 0, .int .u64 0, .float .f64 0, .bool false, .float .f64 0, .float .f64 0]) zr63 J X (fun g140 U w X J => ?_) rfl
  refine x_stb' 0 sz63 J X rfl (fun  U w X J => ?_) rfl
  refine wn (hK136 _ _ ?_)
  refine ws fun K141 hK141 => ?_
  refine x_m J rfl fun U J => ?_
  refine wn (hK141 _ _ ?_)
  refine wp_seq_k fun K142 hK142 => ?_
  have hj1 : ∀ (x143 : Int), ledger_Lay_j1 l129 x130 x137 x143 = some o122 → ∀ (U : Act) (w : World), FR 49 [] U [(3, .slice A126 n127 c128), (5, (pP g140)), (6, .int .u8 x143), (11, .slice A0 n0 c0), (12, .int .i64 (a0.length : Int)), (13, .int .i64 x130)] → SH r (blk g140 63 [.bool x137.f0, .int .u64 x137.f1, str x137.f2.f0, .int .i64 x137.f2.f1.f0, .int .i64 x137.f2.f1.f1, .int .u64 x137.f2.f2.f0, .float .f64 x137.f2.f2.f1, .bool x137.f2.f2.f2, .float .f64 x137.f2.f2.f3, .float .f64 x137.f2.f2.f4] :: own (kI .u8) 5 A126 n127 c128 l129 :: L) w → K142 U w := by
   intro x143 G U w J X
   unfold ledger_Lay_j1 at G
   refine hK142 _ _ ?_
   refine wp_seq_k fun K144 hK144 => ?_
   refine wp_draw [0, 0, 2, 7, 0, 16, 63, 127] [2, 3, 6] rfl J X (by kernel_rfl) (by kernel_rfl) (by kernel_rfl) (by kernel_rfl) fun w X => ?_
   refine ⟨[(0, .slice A126 n127 c128), (1, .int .u8 x143), (4, .pointer (some ⟨g140, 1, none⟩)), (5, .int .u64 x137.f1)], ?_⟩
   refine dF [0, 1, 4, 5] [2] (by kernel_rfl) ⟨pm rfl, pm rfl, pt [(5, (pP g140))] rfl (fun U J => y_fab fa63_1 J rfl rfl), pt [(23, .pointer (some ⟨g140, 1, none⟩))] rfl (fun U J => y_ld uu30 (X.cell 0 rfl 1 _ rfl) J rfl rfl rfl), trivial⟩ ⟨et [(20, .int .u8 x143)] rfl (fun U J K hK => ?_), trivial⟩
   refine z_bsl' (d := (kI .u8)) (e := 5) (ps := #[(0, .int .u8 x143)]) (cells := [.int .u8 x143]) (xs := [x143]) (fun w => by kernel_rfl) rfl ⟨[.int .u8 x143], _, rfl, rfl, rfl⟩ J X (fun g145 w X => ?_) rfl
   refine hK _ [] _ rfl ?_
   refine dF [0, 4, 5] [3] (by kernel_rfl) ⟨pm rfl, pt [(5, (pP g140))] rfl (fun U J => y_fab fa63_1 J rfl rfl), pt [(23, .pointer (some ⟨g140, 1, none⟩))] rfl (fun U J => y_ld uu30 (X.cell 1 rfl 1 _ rfl) J rfl rfl rfl), trivial⟩ ⟨et [(19, .slice A126 n127 c128), (21, .slice (some ⟨g145, 0, none⟩) 1 1)] rfl (fun U J K hK => ?_), trivial⟩
   obtain ⟨h146, G⟩ := chk_some G
   have hr := X.rd 0 rfl
   refine z_app' 2 inf5 uu29 J X hr.1 hr.2.1 h146 rfl (fun A147 n148 c149 w X => ?_) rfl
   refine hK _ [] _ rfl ?_
   refine dF [4, 5] [6] (by kernel_rfl) ⟨pt [(5, (pP g140))] rfl (fun U J => y_fab fa63_1 J rfl rfl), pt [(23, .pointer (some ⟨g140, 1, none⟩))] rfl (fun U J => y_ld uu30 (X.cell 2 rfl 1 _ rfl) J rfl rfl rfl), trivial⟩ ⟨et [(22, .slice A147 n148 c149), (24, .int .u64 x137.f1)] rfl (fun U J K hK => ?_), trivial⟩
   obtain ⟨y150, h151, G⟩ := bnd G
   refine z_call' en50 J (F_column_Uint (L := own (kI .u8) 5 (some ⟨g145, 0, none⟩) 1 1 [x143] :: blk g140 63 [.bool x137.f0, .int .u64 x137.f1, str x137.f2.f0, .int .i64 x137.f2.f1.f0, .int .i64 x137.f2.f1.f1, .int .u64 x137.f2.f2.f0, .float .f64 x137.f2.f2.f1, .bool x137.f2.f2.f2, .float .f64 x137.f2.f2.f3, .float .f64 x137.f2.f2.f4] :: L) (l129 ++ [x143]) x137.f1 A147 n148 c149 h151 X) (fun v w hR => ?_) rfl
   obtain ⟨B152, m153, d154, rfl, X⟩ := hR
   refine hK _ [(7, .slice B152 m153 d154)] _ rfl ?_
   refine dEnd [7] (by kernel_rfl) ⟨pm rfl, trivial⟩ ⟨by kernel_rfl, by kernel_rfl⟩ [(3, .slice B152 m153 d154), (5, (pP g140)), (11, .slice A0 n0 c0), (12, .int .i64 (a0.length : Int)), (13, .int .i64 x130)] rfl (fun U J => ?_)
   refine hK144 _ _ ?_
   refine wp_seq_k fun K155 hK155 => ?_
   refine wp_draw [0, 0, 2, 6, 15, 0, 32, 96, 224, 511, 0, 1024, 3072, 7168, 16383, 32767] [4, 9, 14] rfl J X (by kernel_rfl) (by kernel_rfl) (by kernel_rfl) (by kernel_rfl) fun w X => ?_
   refine ⟨[(0, .slice B152 m153 d154), (1, .pointer (some ⟨g140, 2, none⟩)), (2, .pointer (some ⟨g140, 2, none⟩)), (3, str x137.f2.f0), (5, .pointer (some ⟨g140, 2, none⟩)), (6, .pointer (some ⟨g140, 3, none⟩)), (7, .pointer (some ⟨g140, 3, none⟩)), (8, .int .i64 x137.f2.f1.f0), (10, .pointer (some ⟨g140, 2, none⟩)), (11, .pointer (some ⟨g140, 3, none⟩)), (12, .pointer (some ⟨g140, 4, none⟩)), (13, .int .i64 x137.f2.f1.f1)], ?_⟩
   refine dF [0, 1, 2, 3, 5, 6, 7, 8, 10, 11, 12, 13] [4] (by kernel_rfl) ⟨pm rfl, pt [(5, (pP g140))] rfl (fun U J => y_fab fa63_2 J rfl rfl), pt [(27, .pointer (some ⟨g140, 2, none⟩))] rfl (fun U J => y_fab fa61_0 J rfl rfl), pt [(28, .pointer (some ⟨g140, 2, none⟩))] rfl (fun U J => y_ld uu9 (X.cell 2 rfl 2 _ rfl) J rfl rfl rfl), pt [(5, (pP g140))] rfl (fun U J => y_fab fa63_2 J rfl rfl), pt [(31, .pointer (some ⟨g140, 2, none⟩))] rfl (fun U J => y_fab fa61_1 J rfl rfl), pt [(32, .pointer (some ⟨g140, 3, none⟩))] rfl (fun U J => y_fab fa56_0 J rfl rfl), pt [(33, .pointer (some ⟨g140, 3, none⟩))] rfl (fun U J => y_ld uu2 (X.cell 2 rfl 3 _ rfl) J rfl rfl rfl), pt [(5, (pP g140))] rfl (fun U J => y_fab fa63_2 J rfl rfl), pt [(36, .pointer (some ⟨g140, 2, none⟩))] rfl (fun U J => y_fab fa61_1 J rfl rfl), pt [(37, .pointer (some ⟨g140, 3, none⟩))] rfl (fun U J => y_fab fa56_1 J rfl rfl), pt [(38, .pointer (some ⟨g140, 4, none⟩))] rfl (fun U J => y_ld uu2 (X.cell 2 rfl 4 _ rfl) J rfl rfl rfl), trivial⟩ ⟨et [(26, .slice B152 m153 d154), (29, str x137.f2.f0)] rfl (fun U J K hK => ?_), trivial⟩
   obtain ⟨y156, h157, G⟩ := bnd G
   refine z_call' en68 J (F_column_Text (L := own (kI .u8) 5 (some ⟨g145, 0, none⟩) 1 1 [x143] :: blk g140 63 [.bool x137.f0, .int .u64 x137.f1, str x137.f2.f0, .int .i64 x137.f2.f1.f0, .int .i64 x137.f2.f1.f1, .int .u64 x137.f2.f2.f0, .float .f64 x137.f2.f2.f1, .bool x137.f2.f2.f2, .float .f64 x137.f2.f2.f3, .float .f64 x137.f2.f2.f4] :: L) y150 x137.f2.f0 B152 m153 d154 h157 X) (fun v w hR => ?_) rfl
   obtain ⟨B158, m159, d160, rfl, X⟩ := hR
   refine hK _ [] _ rfl ?_
   refine dF [5, 6, 7, 8, 10, 11, 12, 13] [9] (by kernel_rfl) ⟨pt [(5, (pP g140))] rfl (fun U J => y_fab fa63_2 J rfl rfl), pt [(31, .pointer (some ⟨g140, 2, none⟩))] rfl (fun U J => y_fab fa61_1 J rfl rfl), pt [(32, .pointer (some ⟨g140, 3, none⟩))] rfl (fun U J => y_fab fa56_0 J rfl rfl), pt [(33, .pointer (some ⟨g140, 3, none⟩))] rfl (fun U J => y_ld uu2 (X.cell 2 rfl 3 _ rfl) J rfl rfl rfl), pt [(5, (pP g140))] rfl (fun U J => y_fab fa63_2 J rfl rfl), pt [(36, .pointer (some ⟨g140, 2, none⟩))] rfl (fun U J => y_fab fa61_1 J rfl rfl), pt [(37, .pointer (some ⟨g140, 3, none⟩))] rfl (fun U J => y_fab fa56_1 J rfl rfl), pt [(38, .pointer (some ⟨g140, 4, none⟩))] rfl (fun U J => y_ld uu2 (X.cell 2 rfl 4 _ rfl) J rfl rfl rfl), trivial⟩ ⟨et [(30, .slice B158 m159 d160), (34, .int .i64 x137.f2.f1.f0)] rfl (fun U J K hK => ?_), trivial⟩
   obtain ⟨y161, h162, G⟩ := bnd G
   refine z_call' en67 J (F_column_Int (L := own (kI .u8) 5 (some ⟨g145, 0, none⟩) 1 1 [x143] :: blk g140 63 [.bool x137.f0, .int .u64 x137.f1, str x137.f2.f0, .int .i64 x137.f2.f1.f0, .int .i64 x137.f2.f1.f1, .int .u64 x137.f2.f2.f0, .float .f64 x137.f2.f2.f1, .bool x137.f2.f2.f2, .float .f64 x137.f2.f2.f3, .float .f64 x137.f2.f2.f4] :: L) y156 x137.f2.f1.f0 B158 m159 d160 h162 X) (fun v w hR => ?_) rfl
   obtain ⟨B163, m164, d165, rfl, X⟩ := hR
   refine hK _ [] _ rfl ?_
   refine dF [10, 11, 12, 13] [14] (by kernel_rfl) ⟨pt [(5, (pP g140))] rfl (fun U J => y_fab fa63_2 J rfl rfl), pt [(36, .pointer (some ⟨g140, 2, none⟩))] rfl (fun U J => y_fab fa61_1 J rfl rfl), pt [(37, .pointer (some ⟨g140, 3, none⟩))] rfl (fun U J => y_fab fa56_1 J rfl rfl), pt [(38, .pointer (some ⟨g140, 4, none⟩))] rfl (fun U J => y_ld uu2 (X.cell 2 rfl 4 _ rfl) J rfl rfl rfl), trivial⟩ ⟨et [(35, .slice B163 m164 d165), (39, .int .i64 x137.f2.f1.f1)] rfl (fun U J K hK => ?_), trivial⟩
   obtain ⟨y166, h167, G⟩ := bnd G
   refine z_call' en67 J (F_column_Int (L := own (kI .u8) 5 (some ⟨g145, 0, none⟩) 1 1 [x143] :: blk g140 63 [.bool x137.f0, .int .u64 x137.f1, str x137.f2.f0, .int .i64 x137.f2.f1.f0, .int .i64 x137.f2.f1.f1, .int .u64 x137.f2.f2.f0, .float .f64 x137.f2.f2.f1, .bool x137.f2.f2.f2, .float .f64 x137.f2.f2.f3, .float .f64 x137.f2.f2.f4] :: L) y161 x137.f2.f1.f1 B163 m164 d165 h167 X) (fun v w hR => ?_) rfl
   obtain ⟨B168, m169, d170, rfl, X⟩ := hR
   refine hK _ [(15, .slice B168 m169 d170)] _ rfl ?_
   refine dEnd [15] (by kernel_rfl) ⟨pm rfl, trivial⟩ ⟨by kernel_rfl, by kernel_rfl⟩ [(3, .slice B168 m169 d170), (5, (pP g140)), (11, .slice A0 n0 c0), (12, .int .i64 (a0.length : Int)), (13, .int .i64 x130)] rfl (fun U J => ?_)
   refine hK155 _ _ ?_
   refine wp_reg ?_
   refine x_m J rfl fun U J => ?_
   refine x_fab' fa63_2 J (fun U J => ?_) rfl
   refine x_fab' fa61_2 J (fun U J => ?_) rfl
   refine x_lda' (ad := ⟨g140, 5, none⟩) (cs := [.int .u64 x137.f2.f2.f0, .float .f64 x137.f2.f2.f1, .bool x137.f2.f2.f2, .float .f64 x137.f2.f2.f3, .float .f64 x137.f2.f2.f4]) uu59 sz59 (ldb (X.cell 2 rfl) rfl) J (fun U J => ?_) rfl
   obtain ⟨y171, h172, G⟩ := bnd G
   refine x_call' en69 J (F_agg_LayValue (L := own (kI .u8) 5 (some ⟨g145, 0, none⟩) 1 1 [x143] :: blk g140 63 [.bool x137.f0, .int .u64 x137.f1, str x137.f2.f0, .int .i64 x137.f2.f1.f0, .int .i64 x137.f2.f1.f1, .int .u64 x137.f2.f2.f0, .float .f64 x137.f2.f2.f1, .bool x137.f2.f2.f2, .float .f64 x137.f2.f2.f3, .float .f64 x137.f2.f2.f4] :: L) y166 x137.f2.f2 B168 m169 d170 h172 X) (fun v U w hR J => ?_) rfl
   obtain ⟨B173, m174, d175, rfl, X⟩ := hR
   refine x_m J rfl fun U J => ?_
   refine wpList_nil ?_
   refine hKx135 _ _ ?_
   refine hK134 _ _ ?_
   refine wp_reg ?_
   obtain ⟨x176, h177, G⟩ := ltt_ G
   refine x_v (v := .int .i64 x176) J (rv_i h177 (r_add rfl (J.ev rfl) (J.ev rfl))) rfl fun U J => ?_
   refine x_m J rfl fun U J => ?_
   refine wpList_nil ?_
   replace X := X.drop 1 |>.drop 1
   cases G
   exact ⟨_, N122_ _ rfl, B173, m174, d175, J.sub _ rfl, X⟩
  refine ws fun K178 hK178 => ?_
  refine x_fab' fa63_0 J (fun U J => ?_) rfl
  refine x_ld' uu4 (X.cell 0 rfl 0 _ rfl) J (fun U J => ?_) rfl
  refine wn (hK178 _ _ ?_)
  refine c_if J rfl (fun hb179 => ?_) fun hb179 => ?_
  ·replace G := ift hb179 G
   refine wp_reg ?_
   refine x_m J rfl fun U J => ?_
   refine wpList_nil ?_
   exact hj1 1 G U w (J.sub _ rfl) X
  replace G := iff' hb179 G
  refine wp_skip ?_
  exact hj1 0 G U w (J.sub _ rfl) X
 replace G := iff' hb133 G
 refine wp_exit ?_
 cases G
 exact hx122_0 l129 (T122_ _ rfl) A126 n127 c128 U w (J.sub _ rfl) X
theorem F_ledger_Read_1 {r : World} {L : List HP} {w : World} {Z : Nat → Prop} {wz : World} (a0 : S121) (a1 : (List S63)) (g0 : Nat) (g1 : Nat) {y : ((S121 × (List S63)) ⊕ (S121 × (List S63)))} (G : ledger_Read_1 a0 a1 = some y) (qz : Nat) (hZ : L[qz]? = some (zone Z wz)) (X : SH r (obj121 Z wz g0 a0 :: obj31 g1 a1 :: L) w) :
  RetS Tryz.prog 53 #[.pointer (some ⟨g0, 0, none⟩), (pP g1)] w badC y (fun y v w' => v = .tuple #[] ∧ SH r (obj121 Z wz g0 y.1 :: obj31 g1 y.2 :: L) w') (fun y w' => SH r (obj121 Z wz g0 y.1 :: obj31 g1 y.2 :: L) w') := by
 refine enterS Tryz.func53 rfl Tryz.ntmps53 [(0, (pP g0)), (1, (pP g1))] rfl (by simp) ?_
 intro U J Qf hQ hQn hQp
 unfold ledger_Read_1 at G
 obtain ⟨A100, n101, c102, X⟩ := obj121_open X
 obtain ⟨h103, X⟩ := (X.pk 1).unpure
 replace X := X.pk 1
 obtain ⟨A104, n105, c106, X⟩ := obj31_open X
 refine ws fun K107 hK107 => ?_
 refine x_m J rfl fun U J => ?_
 replace X := SH.pure_ h103 X
 replace X := X.pk 3
 replace X := obj121_mk (x := a0) X
 obtain ⟨y108, h109, G⟩ := bnd G
 rcases y108 with y108 | y108
 rotate_left
 ·replace G := sum_r G
  refine x_callp' (vs := #[.pointer (some ⟨g0, 0, none⟩), .int .u64 1099511627776]) en44 J (RetS.rf (F_column_Reader_Uint (L := blk g1 31 [.slice A104 n105 c106] :: own k63 63 A104 n105 c106 a1 :: L) a0 1099511627776 g0 h109 (qz + 2) hZ X)) (fun w hR => ?_) rfl
  replace X := hR
  obtain ⟨A110, n111, c112, X⟩ := obj121_open X
  obtain ⟨h113, X⟩ := (X.pk 1).unpure
  replace X := SH.pure_ h113 X
  replace X := X.pk 1
  replace X := obj121_mk (x := y108) X
  replace X := X.pk 2 |>.pk 2
  replace X := obj31_mk (x := a1) X
  replace X := X.pk 1
  cases G
  exact hQp _ rfl _ _ J.defers X
 replace G := sum_l G
 refine x_callw' (vs := #[.pointer (some ⟨g0, 0, none⟩), .int .u64 1099511627776]) en44 J (RetS.lf (F_column_Reader_Uint (L := blk g1 31 [.slice A104 n105 c106] :: own k63 63 A104 n105 c106 a1 :: L) a0 1099511627776 g0 h109 (qz + 2) hZ X)) (fun v U w hR J => ?_) rfl
 obtain ⟨rfl, X⟩ := hR
 obtain ⟨A114, n115, c116, X⟩ := obj121_open X
 obtain ⟨h117, X⟩ := (X.pk 1).unpure
 refine x_m J rfl fun U J => ?_
 refine wn (hK107 _ _ ?_)
 refine wp_block_k fun Kx118 hKx118 => ?_
 have hb1 : ∀ (l119 : (List Int)) (l120 : (List S63)), ledger_Read_1_b1 l119 l120 = some y → ∀ (A121 : Option Addr) (n122 : Nat) (c123 : Nat) (A124 : Option Addr) (n125 : Nat) (c126 : Nat) (h127 : Imm Z wz (kI .u8) A121 n122 c123 l119) (U : Act) (w : World), FR 43 [] U [(0, (pP g0)), (1, (pP g1))] → SH r (blk g0 121 [.slice A121 n122 c123] :: blk g1 31 [.slice A124 n125 c126] :: own k63 63 A124 n125 c126 l120 :: L) w → Kx118 U w := by
  intro l119 l120 G A121 n122 c123 A124 n125 c126 h127 U w J X
  unfold ledger_Read_1_b1 at G
  refine hKx118 _ _ ?_
  replace X := SH.pure_ h127 X
  replace X := X.pk 1
  replace X := obj121_mk (x := (⟨l119⟩ : S121)) X
  replace X := X.pk 2 |>.pk 2
  replace X := obj31_mk (x := l120) X
  replace X := X.pk 1
  cases G
  refine hQn _ rfl _ _ ?_
  refine lv0n Tryz.results53 J ?_
  exact ⟨rfl, X⟩
 obtain ⟨t128, hl128, G⟩ := bnd G
 have hR128 := G
 have hx128_0 : ∀ (l129 : (List Int)) (l130 : (List S63)), (.inl (l129, l130)) = t128 → ∀ (A131 : Option Addr) (n132 : Nat) (c133 : Nat) (A134 : Option Addr) (n135 : Nat) (c128 : Nat) (h136 : Imm Z wz (kI .u8) A131 n132 c133 l129) (U : Act) (w : World), FR 43 [] U [(0, (pP g0)), (1, (pP g1))] → SH r (blk g0 121 [.slice A131 n132 c133] :: blk g1 31 [.slice A134 n135 c128] :: own k63 63 A134 n135 c128 l130 :: L) w → Kx118 U w := by
  intro l129 l130 ht A131 n132 c133 A134 n135 c128 h136 U w J X
  subst ht
  replace G : ledger_Read_1_x1_0 l129 l130 = some y := G
  unfold ledger_Read_1_x1_0 at G
  exact hb1 l129 l130 G A131 n132 c133 A134 n135 c128 h136 U w (J.sub _ rfl) X
 refine wp_loop_fn hl128 (fun s U w => ∃ (A137 : Option Addr) (n138 : Nat) (c139 : Nat) (A140 : Option Addr) (n141 : Nat) (c142 : Nat), Imm Z wz (kI .u8) A137 n138 c139 s.1 ∧ FR 43 [] U [(0, (pP g0)), (1, (pP g1)), (6, .int .u64 y108.1), (7, .int .u64 s.2.2)] ∧ SH r (blk g0 121 [.slice A137 n138 c139] :: blk g1 31 [.slice A140 n141 c142] :: own k63 63 A140 n141 c142 s.2.1 :: L) w) ⟨A114, n115, c116, A104, n105, c106, h117, J.sub _ rfl, X⟩ ?_
 intro N128 s128 o128 G N128_ T128_ U w hLab
 obtain ⟨l143, l144, x145⟩ := s128
 replace G : ledger_Read_1_l1 y108 l143 l144 x145 = some o128 := G
 unfold ledger_Read_1_l1 at G
 try dsimp only at hLab
 obtain ⟨A137, n138, c139, A140, n141, c142, h146, J, X⟩ := hLab
 refine ws fun K147 hK147 => ?_
 refine x_v J (r_ltI rfl (J.ev rfl) (J.ev rfl)) rfl fun U J => ?_
 refine wn (hK147 _ _ ?_)
 refine wp_seq_k fun K148 hK148 => ?_
 refine c_if J rfl (fun hb149 => ?_) fun hb149 => ?_
 ·replace G := ift hb149 G
  refine wp_skip ?_
  refine hK148 _ _ ?_
  refine wp_seq_k fun K150 hK150 => ?_
  refine wp_block_k fun Kx151 hKx151 => ?_
  refine ws fun K152 hK152 => ?_
  refine x_m J rfl fun U J => ?_
  replace X := SH.pure_ h146 X
  replace X := X.pk 1
  replace X := obj121_mk (x := (⟨l143⟩ : S121)) X
  obtain ⟨y153, h154, G⟩ := bnd G
  rcases y153 with y153 | y153
  rotate_left
  ·replace G := sum_r G
   refine x_callp' (vs := #[.pointer (some ⟨g0, 0, none⟩)]) en54 J (RetS.rf (F_column_Reader_Byte (L := blk g1 31 [.slice A140 n141 c142] :: own k63 63 A140 n141 c142 l144 :: L) (⟨l143⟩ : S121) g0 h154 (qz + 2) hZ X)) (fun w hR => ?_) rfl
   replace X := hR
   obtain ⟨A155, n156, c157, X⟩ := obj121_open X
   obtain ⟨h158, X⟩ := (X.pk 1).unpure
   replace X := SH.pure_ h158 X
   replace X := X.pk 1
   replace X := obj121_mk (x := y153) X
   replace X := X.pk 2 |>.pk 2
   replace X := obj31_mk (x := l144) X
   replace X := X.pk 1
   cases G
   have ht := T128_ _ rfl
   subst ht
   replace G := hR128
   replace G : some (.inr (y153, l144)) = some y := G
   cases G
   exact hQp _ rfl _ _ J.defers X
  replace G := sum_l G
  refine x_callw' (vs := #[.pointer (some ⟨g0, 0, none⟩)]) en54 J (RetS.lf (F_column_Reader_Byte (L := blk g1 31 [.slice A140 n141 c142] :: own k63 63 A140 n141 c142 l144 :: L) (⟨l143⟩ : S121) g0 h154 (qz + 2) hZ X)) (fun v U w hR J => ?_) rfl
  obtain ⟨rfl, X⟩ := hR
  obtain ⟨A159, n160, c161, X⟩ := obj121_open X
  obtain ⟨h162, X⟩ := (X.pk 1).unpure
  refine x_m J rfl fun U J => ?_
  refine wn (hK152 _ _ ?_)
  refine ws fun K163 hK163 => ?_
  refine x_m J rfl fun U J => ?_
  refine x_m J rfl fun U J => ?_
  refine x_v J (r_ltI rfl (J.ev rfl) (J.ev rfl)) rfl fun U J => ?_
  replace X := SH.pure_ h162 X
  replace X := X.pk 1
  replace X := obj121_mk (x := y153.2) X
  obtain ⟨y164, h165, G⟩ := bnd G
  rcases y164 with y164 | y164
  rotate_left
  ·replace G := sum_r G
   refine x_callp' (vs := #[.pointer (some ⟨g0, 0, none⟩), .bool (decide (y153.1 < 2))]) en55 J (RetS.rf (F_column_Reader_Check (L := blk g1 31 [.slice A140 n141 c142] :: own k63 63 A140 n141 c142 l144 :: L) y153.2 (decide (y153.1 < 2)) g0 h165 (qz + 2) hZ X)) (fun w hR => ?_) rfl
   replace X := hR
   obtain ⟨A166, n167, c168, X⟩ := obj121_open X
   obtain ⟨h169, X⟩ := (X.pk 1).unpure
   replace X := SH.pure_ h169 X
   replace X := X.pk 1
   replace X := obj121_mk (x := y164) X
   replace X := X.pk 2 |>.pk 2
   replace X := obj31_mk (x := l144) X
   replace X := X.pk 1
   cases G
   have ht := T128_ _ rfl
   subst ht
   replace G := hR128
   replace G : some (.inr (y164, l144)) = some y := G
   cases G
   exact hQp _ rfl _ _ J.defers X
  replace G := sum_l G
  refine x_callw' (vs := #[.pointer (some ⟨g0, 0, none⟩), .bool (decide (y153.1 < 2))]) en55 J (RetS.lf (F_column_Reader_Check (L := blk g1 31 [.slice A140 n141 c142] :: own k63 63 A140 n141 c142 l144 :: L) y153.2 (decide (y153.1 < 2)) g0 h165 (qz + 2) hZ X)) (fun v U w hR J => ?_) rfl
  obtain ⟨rfl, X⟩ := hR
  obtain ⟨A170, n171, c172, X⟩ := obj121_open X
  obtain ⟨h173, X⟩ := (X.pk 1).unpure
  refine wn (hK163 _ _ ?_)
  refine ws fun K174 hK174 => ?_
  refine x_m J rfl fun U J => ?_
  refine x_v J (r_eqI rfl (J.ev rfl) (J.ev rfl)) rfl fun U J => ?_
  refine x_m J rfl fun U J => ?_
  replace X := SH.pure_ h173 X
  replace X := X.pk 1
  replace X := obj121_mk (x := y164) X
  obtain ⟨y175, h176, G⟩ := bnd G
  rcases y175 with y175 | y175
  rotate_left
  ·replace G := sum_r G
   refine x_callp' (vs := #[.pointer (some ⟨g0, 0, none⟩), .int .u64 1099511627776]) en44 J (RetS.rf (F_column_Reader_Uint (L := blk g1 31 [.slice A140 n141 c142] :: own k63 63 A140 n141 c142 l144 :: L) y164 1099511627776 g0 h176 (qz + 2) hZ X)) (fun w hR => ?_) rfl
   replace X := hR
   obtain ⟨A177, n178, c179, X⟩ := obj121_open X
   obtain ⟨h180, X⟩ := (X.pk 1).unpure
   replace X := SH.pure_ h180 X
   replace X := X.pk 1
   replace X := obj121_mk (x := y175) X
   replace X := X.pk 2 |>.pk 2
   replace X := obj31_mk (x := l144) X
   replace X := X.pk 1
   cases G
   have ht := T128_ _ rfl
   subst ht
   replace G := hR128
   replace G : some (.inr (y175, l144)) = some y := G
   cases G
   exact hQp _ rfl _ _ J.defers X
  replace G := sum_l G
  refine x_callw' (vs := #[.pointer (some ⟨g0, 0, none⟩), .int .u64 1099511627776]) en44 J (RetS.lf (F_column_Reader_Uint (L := blk g1 31 [.slice A140 n141 c142] :: own k63 63 A140 n141 c142 l144 :: L) y164 1099511627776 g0 h176 (qz + 2) hZ X)) (fun v U w hR J => ?_) rfl
  obtain ⟨rfl, X⟩ := hR
  obtain ⟨A181, n182, c183, X⟩ := obj121_open X
  obtain ⟨h184, X⟩ := (X.pk 1).unpure
  refine x_v (v := .agg #[.bool (y153.1 == 1), .int .u64 y175.1, str [], .int .i64 0, .int .i64 0, .int .u64 0, .float .f64 0, .bool false, .float .f64 0, .float .f64 0]) J (r_build (ps := #[(0, .bool (y153.1 == 1)), (1, .int .u64 y175.1)]) rfl (mapev2 J rfl) (fun w => by kernel_rfl)) rfl fun U J => ?_
  refine x_alloc' (cs := [.bool false, .int .u64 0, str [], .int .i64 0, .int .i64 0, .int .u64 0, .float .f64 0, .bool false, .float .f64 0, .float .f64 0]) zr63 J X (fun g185 U w X J => ?_) rfl
  refine x_stb' 0 sz63 J X rfl (fun  U w X J => ?_) rfl
  refine wn (hK174 _ _ ?_)
  refine ws fun K186 hK186 => ?_
  refine x_m J rfl fun U J => ?_
  replace X := SH.pure_ h184 X
  replace X := X.pk 2
  replace X := obj121_mk (x := y175.2) X
  obtain ⟨y187, h188, G⟩ := bnd G
  rcases y187 with y187 | y187
  rotate_left
  ·replace G := sum_r G
   refine x_callp' (vs := #[.pointer (some ⟨g0, 0, none⟩), .int .i64 32]) en56 J (RetS.rf (F_column_Reader_Text (L := blk g185 63 [.bool (y153.1 == 1), .int .u64 y175.1, str [], .int .i64 0, .int .i64 0, .int .u64 0, .float .f64 0, .bool false, .float .f64 0, .float .f64 0] :: blk g1 31 [.slice A140 n141 c142] :: own k63 63 A140 n141 c142 l144 :: L) y175.2 32 g0 h188 (qz + 3) hZ X)) (fun w hR => ?_) rfl
   replace X := hR
   obtain ⟨A189, n190, c191, X⟩ := obj121_open X
   obtain ⟨h192, X⟩ := (X.pk 1).unpure
   replace X := SH.pure_ h192 X
   replace X := X.pk 1
   replace X := obj121_mk (x := y187) X
   replace X := X.pk 3 |>.pk 3
   replace X := obj31_mk (x := l144) X
   replace X := X.drop 2 |>.pk 1
   cases G
   have ht := T128_ _ rfl
   subst ht
   replace G := hR128
   replace G : some (.inr (y187, l144)) = some y := G
   cases G
   exact hQp _ rfl _ _ J.defers X
  replace G := sum_l G
  refine x_callw' (vs := #[.pointer (some ⟨g0, 0, none⟩), .int .i64 32]) en56 J (RetS.lf (F_column_Reader_Text (L := blk g185 63 [.bool (y153.1 == 1), .int .u64 y175.1, str [], .int .i64 0, .int .i64 0, .int .u64 0, .float .f64 0, .bool false, .float .f64 0, .float .f64 0] :: blk g1 31 [.slice A140 n141 c142] :: own k63 63 A140 n141 c142 l144 :: L) y175.2 32 g0 h188 (qz + 3) hZ X)) (fun v U w hR J => ?_) rfl
  obtain ⟨rfl, X⟩ := hR
  obtain ⟨A193, n194, c195, X⟩ := obj121_open X
  obtain ⟨h196, X⟩ := (X.pk 1).unpure
  refine x_fab' fa63_2 J (fun U J => ?_) rfl
  refine x_fab' fa61_0 J (fun U J => ?_) rfl
  refine x_stb' 1 sz9 J X rfl (fun  U w X J => ?_) rfl
  refine wn (hK186 _ _ ?_)
  refine ws fun K197 hK197 => ?_
  refine x_m J rfl fun U J => ?_
  replace X := SH.pure_ h196 X
  replace X := X.pk 2
  replace X := obj121_mk (x := y187.2) X
  obtain ⟨y198, h199, G⟩ := bnd G
  rcases y198 with y198 | y198
  rotate_left
  ·replace G := sum_r G
   refine x_callp' (vs := #[.pointer (some ⟨g0, 0, none⟩)]) en57 J (RetS.rf (F_column_Reader_Int (L := blk g185 63 [.bool (y153.1 == 1), .int .u64 y175.1, str y187.1, .int .i64 0, .int .i64 0, .int .u64 0, .float .f64 0, .bool false, .float .f64 0, .float .f64 0] :: blk g1 31 [.slice A140 n141 c142] :: own k63 63 A140 n141 c142 l144 :: L) y187.2 g0 h199 (qz + 3) hZ X)) (fun w hR => ?_) rfl
   replace X := hR
   obtain ⟨A200, n201, c202, X⟩ := obj121_open X
   obtain ⟨h203, X⟩ := (X.pk 1).unpure
   replace X := SH.pure_ h203 X
   replace X := X.pk 1
   replace X := obj121_mk (x := y198) X
   replace X := X.pk 3 |>.pk 3
   replace X := obj31_mk (x := l144) X
   replace X := X.drop 2 |>.pk 1
   cases G
   have ht := T128_ _ rfl
   subst ht
   replace G := hR128
   replace G : some (.inr (y198, l144)) = some y := G
   cases G
   exact hQp _ rfl _ _ J.defers X
  replace G := sum_l G
  refine x_callw' (vs := #[.pointer (some ⟨g0, 0, none⟩)]) en57 J (RetS.lf (F_column_Reader_Int (L := blk g185 63 [.bool (y153.1 == 1), .int .u64 y175.1, str y187.1, .int .i64 0, .int .i64 0, .int .u64 0, .float .f64 0, .bool false, .float .f64 0, .float .f64 0] :: blk g1 31 [.slice A140 n141 c142] :: own k63 63 A140 n141 c142 l144 :: L) y187.2 g0 h199 (qz + 3) hZ X)) (fun v U w hR J => ?_) rfl
  obtain ⟨rfl, X⟩ := hR
  obtain ⟨A204, n205, c206, X⟩ := obj121_open X
  obtain ⟨h207, X⟩ := (X.pk 1).unpure
  refine x_m J rfl fun U J => ?_
  replace X := SH.pure_ h207 X
  replace X := X.pk 1
  replace X := obj121_mk (x := y198.2) X
  obtain ⟨y208, h209, G⟩ := bnd G
  rcases y208 with y208 | y208
  rotate_left
  ·replace G := sum_r G
   refine x_callp' (vs := #[.pointer (some ⟨g0, 0, none⟩)]) en57 J (RetS.rf (F_column_Reader_Int (L := blk g185 63 [.bool (y153.1 == 1), .int .u64 y175.1, str y187.1, .int .i64 0, .int .i64 0, .int .u64 0, .float .f64 0, .bool false, .float .f64 0, .float .f64 0] :: blk g1 31 [.slice A140 n141 c142] :: own k63 63 A140 n141 c142 l144 :: L) y198.2 g0 h209 (qz + 3) hZ X)) (fun w hR => ?_) rfl
   replace X := hR
   obtain ⟨A210, n211, c212, X⟩ := obj121_open X
   obtain ⟨h213, X⟩ := (X.pk 1).unpure
   replace X := SH.pure_ h213 X
   replace X := X.pk 1
   replace X := obj121_mk (x := y208) X
   replace X := X.pk 3 |>.pk 3
   replace X := obj31_mk (x := l144) X
   replace X := X.drop 2 |>.pk 1
   cases G
   have ht := T128_ _ rfl
   subst ht
   replace G := hR128
   replace G : some (.inr (y208, l144)) = some y := G
   cases G
   exact hQp _ rfl _ _ J.defers X
  replace G := sum_l G
  refine x_callw' (vs := #[.pointer (some ⟨g0, 0, none⟩)]) en57 J (RetS.lf (F_column_Reader_Int (L := blk g185 63 [.bool (y153.1 == 1), .int .u64 y175.1, str y187.1, .int .i64 0, .int .i64 0, .int .u64 0, .float .f64 0, .bool false, .float .f64 0, .float .f64 0] :: blk g1 31 [.slice A140 n141 c142] :: own k63 63 A140 n141 c142 l144 :: L) y198.2 g0 h209 (qz + 3) hZ X)) (fun v U w hR J => ?_) rfl
  obtain ⟨rfl, X⟩ := hR
  obtain ⟨A214, n215, c216, X⟩ := obj121_open X
  obtain ⟨h217, X⟩ := (X.pk 1).unpure
  refine x_fab' fa63_2 J (fun U J => ?_) rfl
  refine x_fab' fa61_1 J (fun U J => ?_) rfl
  refine x_fab' fa56_0 J (fun U J => ?_) rfl
  refine x_stb' 1 sz2 J X rfl (fun  U w X J => ?_) rfl
  refine x_fab' fa63_2 J (fun U J => ?_) rfl
  refine x_fab' fa61_1 J (fun U J => ?_) rfl
  refine x_fab' fa56_1 J (fun U J => ?_) rfl
  refine x_stb' 0 sz2 J X rfl (fun  U w X J => ?_) rfl
  refine wn (hK197 _ _ ?_)
  refine ws fun K218 hK218 => ?_
  refine x_m J rfl fun U J => ?_
  replace X := SH.pure_ h217 X
  replace X := X.pk 2
  replace X := obj121_mk (x := y208.2) X
  obtain ⟨y219, h220, G⟩ := bnd G
  rcases y219 with y219 | y219
  rotate_left
  ·replace G := sum_r G
   refine x_callp' (vs := #[.pointer (some ⟨g0, 0, none⟩)]) en58 J (RetS.rf (F_agg_ReadValue (L := blk g185 63 [.bool (y153.1 == 1), .int .u64 y175.1, str y187.1, .int .i64 y198.1, .int .i64 y208.1, .int .u64 0, .float .f64 0, .bool false, .float .f64 0, .float .f64 0] :: blk g1 31 [.slice A140 n141 c142] :: own k63 63 A140 n141 c142 l144 :: L) y208.2 g0 h220 (qz + 3) hZ X)) (fun w hR => ?_) rfl
   replace X := hR
   obtain ⟨A221, n222, c223, X⟩ := obj121_open X
   obtain ⟨h224, X⟩ := (X.pk 1).unpure
   replace X := SH.pure_ h224 X
   replace X := X.pk 1
   replace X := obj121_mk (x := y219) X
   replace X := X.pk 3 |>.pk 3
   replace X := obj31_mk (x := l144) X
   replace X := X.drop 2 |>.pk 1
   cases G
   have ht := T128_ _ rfl
   subst ht
   replace G := hR128
   replace G : some (.inr (y219, l144)) = some y := G
   cases G
   exact hQp _ rfl _ _ J.defers X
  replace G := sum_l G
  refine x_callw' (vs := #[.pointer (some ⟨g0, 0, none⟩)]) en58 J (RetS.lf (F_agg_ReadValue (L := blk g185 63 [.bool (y153.1 == 1), .int .u64 y175.1, str y187.1, .int .i64 y198.1, .int .i64 y208.1, .int .u64 0, .float .f64 0, .bool false, .float .f64 0, .float .f64 0] :: blk g1 31 [.slice A140 n141 c142] :: own k63 63 A140 n141 c142 l144 :: L) y208.2 g0 h220 (qz + 3) hZ X)) (fun v U w hR J => ?_) rfl
  obtain ⟨rfl, X⟩ := hR
  obtain ⟨A225, n226, c227, X⟩ := obj121_open X
  obtain ⟨h228, X⟩ := (X.pk 1).unpure
  refine x_fab' fa63_2 J (fun U J => ?_) rfl
  refine x_fab' fa61_2 J (fun U J => ?_) rfl
  refine x_stb' 1 sz59 J X rfl (fun  U w X J => ?_) rfl
  refine wn (hK218 _ _ ?_)
  refine wp_reg ?_
  refine x_ld' uu31 (X.cell 2 rfl 0 _ rfl) J (fun U J => ?_) rfl
  refine x_lda' (ad := ⟨g185, 0, none⟩) (cs := [.bool (y153.1 == 1), .int .u64 y175.1, str y187.1, .int .i64 y198.1, .int .i64 y208.1, .int .u64 y219.1.f0, .float .f64 y219.1.f1, .bool y219.1.f2, .float .f64 y219.1.f3, .float .f64 y219.1.f4]) uu63 sz63 (fun j u h => by rw [add_mk, Nat.zero_add]; exact X.cell 0 rfl j u h) J (fun U J => ?_) rfl
  refine x_bsl' (d := k63) (e := 63) (ps := #[(0, .agg #[.bool (y153.1 == 1), .int .u64 y175.1, str y187.1, .int .i64 y198.1, .int .i64 y208.1, .int .u64 y219.1.f0, .float .f64 y219.1.f1, .bool y219.1.f2, .float .f64 y219.1.f3, .float .f64 y219.1.f4])]) (cells := [.bool (y153.1 == 1), .int .u64 y175.1, str y187.1, .int .i64 y198.1, .int .i64 y208.1, .int .u64 y219.1.f0, .float .f64 y219.1.f1, .bool y219.1.f2, .float .f64 y219.1.f3, .float .f64 y219.1.f4]) (xs := [(⟨y153.1 == 1, y175.1, (⟨y187.1, (⟨y198.1, y208.1⟩ : S56), y219.1⟩ : S61)⟩ : S63)]) (fun w => by kernel_rfl) rfl ⟨[.bool (y153.1 == 1), .int .u64 y175.1, str y187.1, .int .i64 y198.1, .int .i64 y208.1, .int .u64 y219.1.f0, .float .f64 y219.1.f1, .bool y219.1.f2, .float .f64 y219.1.f3, .float .f64 y219.1.f4], _, rfl, rfl, rfl⟩ J X (fun g229 U w X J => ?_) rfl
  obtain ⟨h230, G⟩ := chk_some G
  have hr := X.rd 0 rfl
  refine x_app' 4 inf63 uu31 J X hr.1 hr.2.1 h230 rfl (fun A231 n232 c233 U w X J => ?_) rfl
  refine x_stb' 4 sz31 J X rfl (fun  U w X J => ?_) rfl
  refine wpList_nil ?_
  refine hKx151 _ _ ?_
  refine hK150 _ _ ?_
  refine wp_reg ?_
  obtain ⟨x234, h235, G⟩ := ltt_ G
  refine x_v (v := .int .u64 x234) J (rv_i h235 (r_add rfl (J.ev rfl) (J.ev rfl))) rfl fun U J => ?_
  refine x_m J rfl fun U J => ?_
  refine wpList_nil ?_
  replace X := X.drop 2 |>.drop 2 |>.pk 1 |>.pk 1 |>.pk 2
  cases G
  exact ⟨_, N128_ _ rfl, A225, n226, c227, A231, n232, c233, h228, J.sub _ rfl, X⟩
 replace G := iff' hb149 G
 refine wp_exit ?_
 cases G
 exact hx128_0 l143 l144 (T128_ _ rfl) A137 n138 c139 A140 n141 c142 h146 U w (J.sub _ rfl) X
theorem F_Try_ledger_Read_1 {r : World} {L : List HP} {w : World} {Z : Nat → Prop} {wz : World} (a0 : (List Int)) (a60 : (List S63)) (A0 : Option Addr) (n0 : Nat) (c0 : Nat) (g60 : Nat) {y : (Bool × (List S63))} (G : Try_ledger_Read_1 a0 a60 = some y) (qz : Nat) (hZ : L[qz]? = some (zone Z wz)) (ha0 : Imm Z wz (kI .u8) A0 n0 c0 a0) (X : SH r (obj31 g60 a60 :: L) w) :
  Ret Tryz.prog 42 #[.slice A0 n0 c0, .func (.func 53) #[] #[.pointer (some ⟨g60, 0, none⟩)]] w fun v w' => v = .bool y.1 ∧ SH r (obj31 g60 y.2 :: L) w' := by
 obtain ⟨y', hy, G⟩ := bnd G
 refine Ret.mono_ (try_walk (R := fun v w' => v = .bool y.1 ∧ SH r (obj31 g60 y.2 :: L) w') en53 X (fun g g4 w1 hS1 => ?_)) (fun v w' h => h)
 replace hS1 := obj121_mk (x := ⟨a0⟩) (hS1.pk 1 |> fun h => (SH.pure_ ha0 (h.pk 1)).pk 1)
 replace hS1 := hS1.pk 1
 replace hS1 := hS1.pk 2
 replace hS1 := hS1.pk 2
 rcases y' with y' | y'
 ·replace G := sum_l G
  cases G
  left
  refine Ret.mono_ (RetS.lf (F_ledger_Read_1 (L := blk g4 4 [.bool false] :: L) (⟨a0⟩ : S121) a60 g g60 hy (qz + 1) hZ hS1)) ?_
  rintro v w2 ⟨rfl, X⟩
  replace X := X.pk 2 |>.pk 1
  obtain ⟨A', n', c', X⟩ := obj121_open X
  have hQ := SH.unpure (X.pk 1)
  clear X
  obtain ⟨hi, X⟩ := hQ
  refine ⟨_, A', n', c', X, fun w3 h3 => ⟨?_, h3⟩⟩
  rw [← hi.ln]
 ·replace G := sum_r G
  cases G
  right
  refine Calls.mono (RetS.rf (F_ledger_Read_1 (L := blk g4 4 [.bool false] :: L) (⟨a0⟩ : S121) a60 g g60 hy (qz + 1) hZ hS1)) ?_
  rintro e w2 ⟨rfl, X⟩
  replace X := X.pk 2 |>.drop 1
  exact ⟨rfl, _, X, fun w3 h3 => ⟨rfl, h3⟩⟩
theorem F_ledger_Read {r : World} {L : List HP} {w : World} {Z : Nat → Prop} {wz : World} (a0 : (List Int)) (A0 : Option Addr) (n0 : Nat) (c0 : Nat) {y : ((List S63) × Int)} (G : ledger_Read a0 = some y) (ha0 : Imm Z wz (kI .u8) A0 n0 c0 a0) (hG0 : Imm Z wz (kI .u32) (some ⟨0, 0, none⟩) 16 16 gl_page_table) (X : SH r (zone Z wz :: L) w) :
  Ret Tryz.prog 30 #[.slice A0 n0 c0] w fun v w' => ∃ (Z' : Nat → Prop) (wz' : World) (B0 : Option Addr) (m0 : Nat) (d0 : Nat), v = .tuple #[(.slice B0 m0 d0), (.int .i64 y.2)] ∧ Sub Z wz Z' wz' ∧ SH r (own k63 63 B0 m0 d0 y.1 :: zone Z' wz' :: L) w' := by
 refine enter Tryz.func30 rfl Tryz.ntmps30 [(0, .slice A0 n0 c0)] rfl (by simp) ?_
 intro U J Qf hQ hQn
 unfold ledger_Read at G
 refine ws fun K100 hK100 => ?_
 refine x_m J rfl fun U J => ?_
 refine x_m J rfl fun U J => ?_
 refine wn (hK100 _ _ ?_)
 refine ws fun K101 hK101 => ?_
 refine x_m J rfl fun U J => ?_
 obtain ⟨y102, h103, G⟩ := bnd G
 refine x_call' en41 J (F_page_One (L := zone Z wz :: L) a0 108 A0 n0 c0 h103 0 rfl ha0 hG0 X) (fun v U w hR J => ?_) rfl
 obtain ⟨B104, m105, d106, rfl, X⟩ := hR
 refine x_m J rfl fun U J => ?_
 refine x_v J (r_extract rfl (J.ev rfl) rfl) rfl fun U J => ?_
 refine x_v J (r_extract rfl (J.ev rfl) rfl) rfl fun U J => ?_
 refine x_m J rfl fun U J => ?_
 refine x_m J rfl fun U J => ?_
 refine wn (hK101 _ _ ?_)
 refine wp_seq_k fun K107 hK107 => ?_
 refine ws fun K108 hK108 => ?_
 refine x_m J rfl fun U J => ?_
 refine x_v J (r_neI rfl (J.ev rfl) (J.ev rfl)) rfl fun U J => ?_
 refine wn (hK108 _ _ ?_)
 refine c_if J rfl (fun hb109 => ?_) fun hb109 => ?_
 ·replace G := ift hb109 G
  refine ws fun K110 hK110 => ?_
  refine x_m J rfl fun U J => ?_
  refine x_m J rfl fun U J => ?_
  refine x_m J rfl fun U J => ?_
  refine wn (hK110 _ _ ?_)
  refine wp_ret ?_
  replace X := SH.nil_own (d := k63) (e := 63) X
  replace X := X.drop 1 |>.pk 1 |>.pk 1
  cases G
  refine hQ _ _ ?_
  refine lv2 Tryz.results30 J rfl rfl ?_
  exact ⟨Z, wz, none, 0, 0, rfl, (Sub.refl _ _), X⟩
 replace G := iff' hb109 G
 refine wp_skip ?_
 refine hK107 _ _ ?_
 refine ws fun K111 hK111 => ?_
 refine x_alloc' (cs := [.slice none 0 0]) zr31 J X (fun g112 U w X J => ?_) rfl
 refine wn (hK111 _ _ ?_)
 refine ws fun K113 hK113 => ?_
 refine x_m J rfl fun U J => ?_
 refine x_v J (r_makeFunc rfl (mapev (vals := #[]) J rfl) (mapev (vals := #[.pointer (some ⟨g112, 0, none⟩)]) J rfl)) rfl fun U J => ?_
 replace X := X.pk 2 |>.pk 2
 obtain ⟨Z114, wz115, X, h116, sb118⟩ := SH.freeze (n := m105) (c := d106) (A := B104) X
 have h117 := Imm.sub ha0 sb118
 replace X := SH.nil_own (d := k63) (e := 63) X
 replace X := X.pk 2
 replace X := obj31_mk (x := []) X
 obtain ⟨y118, h119, G⟩ := bnd G
 refine x_call' en42 J (F_Try_ledger_Read_1 (L := zone Z114 wz115 :: L) y102.1 [] B104 m105 d106 g112 h119 0 rfl h116 X) (fun v U w hR J => ?_) rfl
 obtain ⟨rfl, X⟩ := hR
 obtain ⟨A120, n121, c122, X⟩ := obj31_open X
 refine x_m J rfl fun U J => ?_
 refine wn (hK113 _ _ ?_)
 refine wp_seq_k fun K123 hK123 => ?_
 refine ws fun K124 hK124 => ?_
 refine x_m J rfl fun U J => ?_
 refine x_v J (r_not rfl (J.ev rfl)) rfl fun U J => ?_
 refine wn (hK124 _ _ ?_)
 refine c_if J rfl (fun hb125 => ?_) fun hb125 => ?_
 ·replace G := ift hb125 G
  refine ws fun K126 hK126 => ?_
  refine x_m J rfl fun U J => ?_
  refine x_m J rfl fun U J => ?_
  refine wn (hK126 _ _ ?_)
  refine wp_ret ?_
  replace X := SH.nil_own (d := k63) (e := 63) X
  replace X := X.drop 1 |>.drop 1 |>.pk 1 |>.pk 1
  cases G
  refine hQ _ _ ?_
  refine lv2 Tryz.results30 J rfl rfl ?_
  exact ⟨Z114, wz115, none, 0, 0, rfl, sb118, X⟩
 replace G := iff' hb125 G
 refine wp_skip ?_
 refine hK123 _ _ ?_
 refine ws fun K127 hK127 => ?_
 refine x_ld' uu31 (X.cell 0 rfl 0 _ rfl) J (fun U J => ?_) rfl
 refine x_m J rfl fun U J => ?_
 refine x_m J rfl fun U J => ?_
 refine wn (hK127 _ _ ?_)
 refine wp_ret ?_
 replace X := X.drop 0 |>.pk 1 |>.pk 1
 cases G
 refine hQ _ _ ?_
 refine lv2 Tryz.results30 J rfl rfl ?_
 exact ⟨Z114, wz115, A120, n121, c122, rfl, sb118, X⟩
noncomputable section
set_option linter.unusedSimpArgs false
def slices_Insert_files_file_files_file (a0 : (List (S72 × Hd))) (k0 : Nat) (a1 : Int) (a2 : (List (S72 × Hd))) : Option ((List (S72 × Hd))) :=
  (cut_ a0 a1 (a0.length : Int)).bind fun l103 => (if ((a2.length : Int) == 0) = true then (some a0) else (if (a1 == (a0.length : Int)) = true then (chk (a0.length + a2.length ≤ 140737488355328 / 48) (some (a0 ++ a2))) else (ltt (IntKind.i64.wrap ((a0.length : Int) + (a2.length : Int))) fun x121 => (if (decide (((k0 : Nat) : Int) < x121)) = true then ((cut_ a0 0 a1).bind fun l125 => (ltt (IntKind.i64.wrap (x121 - a1)) fun x127 => (chk (0 < x127 ∧ k0 < a1.toNat + x127.toNat ∧ (a1.toNat + x127.toNat) * 48 ≤ 140737488355328) (ltt (l125 ++ List.replicate x127.toNat (((⟨[], [], 0⟩ : S72), none, 0, 0) : S72 × Hd)) fun q132 => (chk (0 ≤ a1 ∧ a1 < (q132.length : Int)) (chk (0 < (a2.take (min a2.length (q132.length - a1.toNat))).length ∧ (0 + a1.toNat) + (a2.take (min a2.length (q132.length - a1.toNat))).length ≤ q132.length) (ltt (q132.take (0 + a1.toNat) ++ a2.take (min a2.length (q132.length - a1.toNat)) ++ q132.drop ((0 + a1.toNat) + (a2.take (min a2.length (q132.length - a1.toNat))).length)) fun q139 => (ltt (IntKind.i64.wrap (a1 + (a2.length : Int))) fun x142 => (chk (0 ≤ x142 ∧ x142 < (q139.length : Int)) (chk (0 < (l103.take (min l103.length (q139.length - x142.toNat))).length ∧ (0 + x142.toNat) + (l103.take (min l103.length (q139.length - x142.toNat))).length ≤ q139.length) (ltt (q139.take (0 + x142.toNat) ++ l103.take (min l103.length (q139.length - x142.toNat)) ++ q139.drop ((0 + x142.toNat) + (l103.take (min l103.length (q139.length - x142.toNat))).length)) fun q148 => (some q148)))))))))))) else (chk (0 < k0) (chk (0 ≤ x121 ∧ x121 ≤ (k0 : Int)) (ltt (IntKind.i64.wrap (a1 + (a2.length : Int))) fun x157 => (chk (0 ≤ x157 ∧ x157 < ((x121.toNat : Nat) : Int) ∧ x121.toNat ≤ k0) (chk (0 < a2.length ∧ 0 < k0) (chk (0 ≤ x157 ∧ x157 < ((x121.toNat : Nat) : Int) ∧ x121.toNat ≤ k0) (chk (0 ≤ a1 ∧ a1 < ((x121.toNat : Nat) : Int) ∧ x121.toNat ≤ k0) ((rdo (a0.map some ++ List.replicate (k0 - a0.length) none) (0 + a1.toNat) (min (x121.toNat - a1.toNat) (x121.toNat - x157.toNat))).bind fun l164 => (chk (0 < l164.length ∧ (0 + x157.toNat) + l164.length ≤ k0) (ltt ((a0.map some ++ List.replicate (k0 - a0.length) none).take (0 + x157.toNat) ++ l164.map some ++ (a0.map some ++ List.replicate (k0 - a0.length) none).drop ((0 + x157.toNat) + l164.length)) fun q168 => (chk (0 ≤ a1 ∧ a1 < ((x121.toNat : Nat) : Int) ∧ x121.toNat ≤ k0) (chk (0 < (a2.take (min a2.length (x121.toNat - a1.toNat))).length ∧ (0 + a1.toNat) + (a2.take (min a2.length (x121.toNat - a1.toNat))).length ≤ k0) (ltt (q168.take (0 + a1.toNat) ++ (a2.take (min a2.length (x121.toNat - a1.toNat))).map some ++ q168.drop ((0 + a1.toNat) + (a2.take (min a2.length (x121.toNat - a1.toNat))).length)) fun q174 => ((rdo q174 0 x121.toNat).bind fun l177 => (some l177)))))))))))))))))))
def slices_Delete_files_file_files_file (a0 : (List (S72 × Hd))) (k0 : Nat) (a1 : Int) (a2 : Int) : Option ((List (S72 × Hd))) :=
  chk (0 ≤ a1 ∧ a1 ≤ a2 ∧ a2 ≤ (a0.length : Int) ∧ (a0.length : Int) ≤ (a0.length : Int)) (if (a1 == a2) = true then (some a0) else (chk (0 < k0) (chk (0 ≤ a1 ∧ a1 ≤ (k0 : Int)) (chk (0 ≤ a2 ∧ a2 ≤ ((a0.length : Nat) : Int) ∧ a0.length ≤ k0) ((rdo (a0.map some ++ List.replicate (k0 - a0.length) none) (0 + a2.toNat) (a0.length - a2.toNat)).bind fun l114 => (chk (a1.toNat + (a0.length - a2.toNat) ≤ k0) (ltt ((a0.map some ++ List.replicate (k0 - a0.length) none).take a1.toNat ++ l114.map some ++ (a0.map some ++ List.replicate (k0 - a0.length) none).drop (a1.toNat + (a0.length - a2.toNat))) fun q117 => (chk (0 ≤ (((a1.toNat + (a0.length - a2.toNat)) : Nat) : Int) ∧ (((a1.toNat + (a0.length - a2.toNat)) : Nat) : Int) < (a0.length : Int) ∧ (a0.length : Int) ≤ ((k0 : Nat) : Int)) (chk (0 < ((a0.length : Int).toNat - (((a1.toNat + (a0.length - a2.toNat)) : Nat) : Int).toNat) ∧ (0 + (((a1.toNat + (a0.length - a2.toNat)) : Nat) : Int).toNat) + ((a0.length : Int).toNat - (((a1.toNat + (a0.length - a2.toNat)) : Nat) : Int).toNat) ≤ k0) (ltt (q117.take (0 + (((a1.toNat + (a0.length - a2.toNat)) : Nat) : Int).toNat) ++ (List.replicate ((a0.length : Int).toNat - (((a1.toNat + (a0.length - a2.toNat)) : Nat) : Int).toNat) (((⟨[], [], 0⟩ : S72), none, 0, 0) : S72 × Hd)).map some ++ q117.drop ((0 + (((a1.toNat + (a0.length - a2.toNat)) : Nat) : Int).toNat) + ((a0.length : Int).toNat - (((a1.toNat + (a0.length - a2.toNat)) : Nat) : Int).toNat))) fun q122 => ((rdo q122 0 (a1.toNat + (a0.length - a2.toNat))).bind fun l125 => (some l125))))))))))))
end
end Go.Proofs.YtffdckhgkhhbjaaGreatDoor.M
