/- Texts of the claim, joined: what it uses of Mce, Drr, Mrr, Tr, Dcr, Mcr. -/
import Derived.Test.YteodeedejjcmgaaDoorZb
namespace Go.Proofs.YteodeedejjcmgaaDoor.M
open Go Go.RowKit Go.Proofs.YteodeedejjcmgaaDoor.E
set_option linter.unusedVariables false
set_option maxRecDepth 100000
set_option maxHeartbeats 4000000
set_option linter.unusedSimpArgs false
theorem F_column_Uint {r : World} {L : List HP} {w : World} (a0 : (List Int)) (a1 : Int) (A0 : Option Addr) (n0 : Nat) (c0 : Nat) {y : ((List Int))} (G : column_Uint a0 a1 = some y) (X : SH r (own (kI .u8) 5 A0 n0 c0 a0 :: L) w) :
  Ret Tryd.prog 48 #[.slice A0 n0 c0, .int .u64 a1] w fun v w' => ∃ (B0 : Option Addr) (m0 : Nat) (d0 : Nat), v = .slice B0 m0 d0 ∧ SH r (own (kI .u8) 5 B0 m0 d0 y :: L) w' := by
 refine enter Tryd.func48 rfl Tryd.ntmps48 [(0, .slice A0 n0 c0), (1, .int .u64 a1)] rfl (by simp) ?_
 intro U J Qf hQ hQn
 unfold column_Uint at G
 refine ws fun K100 hK100 => ?_
 refine x_m J rfl fun U J => ?_
 refine wn (hK100 _ _ ?_)
 refine wp_seq_k fun K101 hK101 => ?_
 refine wp_block_k fun Kx102 hKx102 => ?_
 have hb1 : ∀ (l103 : (List Int)) (x104 : Int), column_Uint_b1 l103 x104 = some y → ∀ (A105 : Option Addr) (n106 : Nat) (c107 : Nat) (U : Act) (w : World), FR 20 [] U [(0, .slice A105 n106 c107), (1, .int .u64 x104)] → SH r (own (kI .u8) 5 A105 n106 c107 l103 :: L) w → Kx102 U w := by
  intro l103 x104 G A105 n106 c107 U w J X
  unfold column_Uint_b1 at G
  refine hKx102 _ _ ?_
  refine hK101 _ _ ?_
  refine ws fun K108 hK108 => ?_
  refine x_m J rfl fun U J => ?_
  refine x_m J rfl fun U J => ?_
  obtain ⟨x109, h110, G⟩ := ltt_ G
  refine x_v (v := .int .u8 x109) J (rv_i h110 (r_convI uu31 uu5 rfl (J.ev rfl))) rfl fun U J => ?_
  refine x_bsl' (d := (kI .u8)) (e := 5) (ps := #[(0, .int .u8 x109)]) (cells := [.int .u8 x109]) (xs := [x109]) (fun w => by kernel_rfl) rfl ⟨[.int .u8 x109], _, rfl, rfl, rfl⟩ J X (fun g111 U w X J => ?_) rfl
  obtain ⟨h112, G⟩ := chk_some G
  have hr := X.rd 0 rfl
  refine x_app' 1 inf5 uu24 J X hr.1 hr.2.1 h112 rfl (fun A113 n114 c115 U w X J => ?_) rfl
  refine x_m J rfl fun U J => ?_
  refine wn (hK108 _ _ ?_)
  refine wp_ret ?_
  replace X := X.drop 1
  cases G
  refine hQ _ _ ?_
  refine lv Tryd.results48 J rfl ?_
  exact ⟨A113, n114, c115, rfl, X⟩
 obtain ⟨t116, hl116, G⟩ := bnd G
 have hx116_0 : ∀ (l117 : (List Int)) (x116 : Int), (l117, x116) = t116 → ∀ (A118 : Option Addr) (n119 : Nat) (c120 : Nat) (U : Act) (w : World), FR 20 [] U [(0, .slice A118 n119 c120), (1, .int .u64 x116)] → SH r (own (kI .u8) 5 A118 n119 c120 l117 :: L) w → Kx102 U w := by
  intro l117 x116 ht A118 n119 c120 U w J X
  subst ht
  replace G : column_Uint_x1_0 l117 x116 = some y := G
  unfold column_Uint_x1_0 at G
  exact hb1 l117 x116 G A118 n119 c120 U w (J.sub _ rfl) X
 refine wp_loop_fn hl116 (fun s U w => ∃ (A121 : Option Addr) (n122 : Nat) (c123 : Nat), FR 20 [] U [(0, .slice A121 n122 c123), (1, .int .u64 s.2)] ∧ SH r (own (kI .u8) 5 A121 n122 c123 s.1 :: L) w) ⟨A0, n0, c0, J.sub _ rfl, X⟩ ?_
 intro N116 s116 o116 G N116_ T116_ U w hLab
 obtain ⟨l124, x125⟩ := s116
 replace G : column_Uint_l1 l124 x125 = some o116 := G
 unfold column_Uint_l1 at G
 try dsimp only at hLab
 obtain ⟨A121, n122, c123, J, X⟩ := hLab
 refine wp_seq_k fun K126 hK126 => ?_
 refine ws fun K127 hK127 => ?_
 refine x_m J rfl fun U J => ?_
 refine x_v J (r_geI rfl (J.ev rfl) (J.ev rfl)) rfl fun U J => ?_
 refine wn (hK127 _ _ ?_)
 refine c_if J rfl (fun hb128 => ?_) fun hb128 => ?_
 ·replace G := ift hb128 G
  refine wp_skip ?_
  refine hK126 _ _ ?_
  refine wp_seq_k fun K129 hK129 => ?_
  refine wp_block_k fun Kx130 hKx130 => ?_
  refine wp_reg ?_
  refine x_m J rfl fun U J => ?_
  refine x_m J rfl fun U J => ?_
  obtain ⟨x131, h132, G⟩ := ltt_ G
  refine x_v (v := .int .u8 x131) J (rv_i h132 (r_convI uu31 uu5 rfl (J.ev rfl))) rfl fun U J => ?_
  obtain ⟨x133, h134, G⟩ := ltt_ G
  refine x_v (v := .int .u8 x133) J (rv_i h134 (r_or rfl (J.ev rfl) (J.ev rfl))) rfl fun U J => ?_
  refine x_bsl' (d := (kI .u8)) (e := 5) (ps := #[(0, .int .u8 x133)]) (cells := [.int .u8 x133]) (xs := [x133]) (fun w => by kernel_rfl) rfl ⟨[.int .u8 x133], _, rfl, rfl, rfl⟩ J X (fun g135 U w X J => ?_) rfl
  obtain ⟨h136, G⟩ := chk_some G
  have hr := X.rd 0 rfl
  refine x_app' 1 inf5 uu24 J X hr.1 hr.2.1 h136 rfl (fun A137 n138 c139 U w X J => ?_) rfl
  refine x_m J rfl fun U J => ?_
  refine wpList_nil ?_
  refine hKx130 _ _ ?_
  refine hK129 _ _ ?_
  refine wp_reg ?_
  refine x_m J rfl fun U J => ?_
  obtain ⟨x140, h141, G⟩ := ltt_ G
  refine x_v (v := .int .u64 x140) J (rv_i h141 (r_shr rfl (J.ev rfl) (J.ev rfl) (by decide))) rfl fun U J => ?_
  refine x_m J rfl fun U J => ?_
  refine wpList_nil ?_
  replace X := X.drop 1
  cases G
  exact ⟨_, N116_ _ rfl, A137, n138, c139, J.sub _ rfl, X⟩
 replace G := iff' hb128 G
 refine wp_exit ?_
 cases G
 exact hx116_0 l124 x125 (T116_ _ rfl) A121 n122 c123 U w (J.sub _ rfl) X
theorem F_column_Int {r : World} {L : List HP} {w : World} (a0 : (List Int)) (a1 : Int) (A0 : Option Addr) (n0 : Nat) (c0 : Nat) {y : ((List Int))} (G : column_Int a0 a1 = some y) (X : SH r (own (kI .u8) 5 A0 n0 c0 a0 :: L) w) :
  Ret Tryd.prog 28 #[.slice A0 n0 c0, .int .i64 a1] w fun v w' => ∃ (B0 : Option Addr) (m0 : Nat) (d0 : Nat), v = .slice B0 m0 d0 ∧ SH r (own (kI .u8) 5 B0 m0 d0 y :: L) w' := by
 refine enter Tryd.func28 rfl Tryd.ntmps28 [(0, .slice A0 n0 c0), (1, .int .i64 a1)] rfl (by simp) ?_
 intro U J Qf hQ hQn
 unfold column_Int at G
 refine ws fun K100 hK100 => ?_
 refine x_m J rfl fun U J => ?_
 refine wn (hK100 _ _ ?_)
 refine ws fun K101 hK101 => ?_
 refine x_m J rfl fun U J => ?_
 refine x_m J rfl fun U J => ?_
 obtain ⟨x102, h103, G⟩ := ltt_ G
 refine x_v (v := .int .i64 x102) J (rv_i h103 (r_shl rfl (J.ev rfl) (J.ev rfl) (by decide))) rfl fun U J => ?_
 obtain ⟨x104, h105, G⟩ := ltt_ G
 refine x_v (v := .int .u64 x104) J (rv_i h105 (r_convI uu2 uu31 rfl (J.ev rfl))) rfl fun U J => ?_
 refine x_m J rfl fun U J => ?_
 obtain ⟨x106, h107, G⟩ := ltt_ G
 refine x_v (v := .int .i64 x106) J (rv_i h107 (r_shr rfl (J.ev rfl) (J.ev rfl) (by decide))) rfl fun U J => ?_
 obtain ⟨x108, h109, G⟩ := ltt_ G
 refine x_v (v := .int .u64 x108) J (rv_i h109 (r_convI uu2 uu31 rfl (J.ev rfl))) rfl fun U J => ?_
 obtain ⟨x110, h111, G⟩ := ltt_ G
 refine x_v (v := .int .u64 x110) J (rv_i h111 (r_xor rfl (J.ev rfl) (J.ev rfl))) rfl fun U J => ?_
 obtain ⟨y112, h113, G⟩ := bnd G
 refine x_call' en48 J (F_column_Uint (L := L) a0 x110 A0 n0 c0 h113 X) (fun v U w hR J => ?_) rfl
 obtain ⟨B114, m115, d116, rfl, X⟩ := hR
 refine x_m J rfl fun U J => ?_
 refine wn (hK101 _ _ ?_)
 refine wp_ret ?_
 cases G
 refine hQ _ _ ?_
 refine lv Tryd.results28 J rfl ?_
 exact ⟨B114, m115, d116, rfl, X⟩
theorem F_column_Text {r : World} {L : List HP} {w : World} (a0 : (List Int)) (a1 : (List UInt8)) (A0 : Option Addr) (n0 : Nat) (c0 : Nat) {y : ((List Int))} (G : column_Text a0 a1 = some y) (X : SH r (own (kI .u8) 5 A0 n0 c0 a0 :: L) w) :
  Ret Tryd.prog 29 #[.slice A0 n0 c0, str a1] w fun v w' => ∃ (B0 : Option Addr) (m0 : Nat) (d0 : Nat), v = .slice B0 m0 d0 ∧ SH r (own (kI .u8) 5 B0 m0 d0 y :: L) w' := by
 refine enter Tryd.func29 rfl Tryd.ntmps29 [(0, .slice A0 n0 c0), (1, str a1)] rfl (by simp) ?_
 intro U J Qf hQ hQn
 unfold column_Text at G
 refine ws fun K100 hK100 => ?_
 refine x_m J rfl fun U J => ?_
 refine wn (hK100 _ _ ?_)
 refine ws fun K101 hK101 => ?_
 refine x_m J rfl fun U J => ?_
 refine x_m J rfl fun U J => ?_
 refine x_v J (r_lenS uu9 rfl (J.ev rfl)) rfl fun U J => ?_
 obtain ⟨x102, h103, G⟩ := ltt_ G
 refine x_v (v := .int .u64 x102) J (rv_i h103 (r_convI uu3 uu31 rfl (J.ev rfl))) rfl fun U J => ?_
 obtain ⟨y104, h105, G⟩ := bnd G
 refine x_call' en48 J (F_column_Uint (L := L) a0 x102 A0 n0 c0 h105 X) (fun v U w hR J => ?_) rfl
 obtain ⟨B106, m107, d108, rfl, X⟩ := hR
 refine x_m J rfl fun U J => ?_
 obtain ⟨h109, G⟩ := chk_some G
 refine x_appS' 0 inf5 uu24 uu9 J X h109 rfl (fun A110 n111 c112 U w X J => ?_) rfl
 refine x_m J rfl fun U J => ?_
 refine wn (hK101 _ _ ?_)
 refine wp_ret ?_
 cases G
 refine hQ _ _ ?_
 refine lv Tryd.results29 J rfl ?_
 exact ⟨A110, n111, c112, rfl, X⟩
theorem F_slices_Min_int64_int64 {r : World} {L : List HP} {w : World} (a0 : (List Int)) (A0 : Option Addr) (n0 : Nat) (c0 : Nat) {y : (Int)} (G : slices_Min_int64_int64 a0 = some y) (ha0 : RdL L (kI .i64) A0 n0 c0 a0) (X : SH r (L) w) :
  Ret Tryd.prog 96 #[.slice A0 n0 c0] w fun v w' => v = .int .i64 y ∧ SH r (L) w' := by
 refine enter Tryd.func96 rfl Tryd.ntmps96 [(0, .slice A0 n0 c0)] rfl (by simp) ?_
 intro U J Qf hQ hQn
 unfold slices_Min_int64_int64 at G
 refine ws fun K100 hK100 => ?_
 refine x_m J rfl fun U J => ?_
 refine wn (hK100 _ _ ?_)
 refine wp_seq_k fun K101 hK101 => ?_
 refine ws fun K102 hK102 => ?_
 refine x_m J rfl fun U J => ?_
 refine x_len' uu90 (X.rdl 0 ha0 rfl).2.1 J (fun U J => ?_) rfl
 refine x_v J (r_ltI rfl (J.ev rfl) (J.ev rfl)) rfl fun U J => ?_
 refine wn (hK102 _ _ ?_)
 refine c_if J rfl (fun hb103 => ?_) fun hb103 => ?_
 ·replace G := ift hb103 G
  refine wp_reg ?_
  refine x_v J (r_makeI uu9 rfl rfl (J.ev rfl)) rfl fun U J => ?_
  cases G
 replace G := iff' hb103 G
 refine wp_skip ?_
 refine hK101 _ _ ?_
 refine ws fun K104 hK104 => ?_
 refine x_m J rfl fun U J => ?_
 obtain ⟨x105, h106, G⟩ := bnd G
 refine x_ia' uu90 sz2 (X.rdl 0 ha0 rfl) h106 J (fun U J => ?_) rfl
 obtain ⟨cs, hV, hc107⟩ := el (X.rdl 0 ha0 rfl) h106
 obtain rfl := hV
 refine x_ld' uu2 (hc107 0 _ rfl) J (fun U J => ?_) rfl
 refine x_m J rfl fun U J => ?_
 refine wn (hK104 _ _ ?_)
 refine wp_seq_k fun K108 hK108 => ?_
 refine ws fun K109 hK109 => ?_
 refine x_m J rfl fun U J => ?_
 refine wn (hK109 _ _ ?_)
 refine wp_block_k fun Kx110 hKx110 => ?_
 have hb1 : ∀ (x111 : Int), slices_Min_int64_int64_b1 x111 = some y → ∀ (U : Act) (w : World), FR 25 [] U [(3, .int .i64 x111)] → SH r (L) w → Kx110 U w := by
  intro x111 G U w J X
  unfold slices_Min_int64_int64_b1 at G
  refine hKx110 _ _ ?_
  refine hK108 _ _ ?_
  refine ws fun K112 hK112 => ?_
  refine x_m J rfl fun U J => ?_
  refine x_m J rfl fun U J => ?_
  refine wn (hK112 _ _ ?_)
  refine wp_ret ?_
  cases G
  refine hQ _ _ ?_
  refine lv Tryd.results96 J rfl ?_
  exact ⟨rfl, X⟩
 obtain ⟨t113, hl113, G⟩ := bnd G
 have hx113_0 : ∀ (x113 : Int), (x113) = t113 → ∀ (U : Act) (w : World), FR 25 [] U [(3, .int .i64 x113)] → SH r (L) w → Kx110 U w := by
  intro x113 ht U w J X
  subst ht
  replace G : slices_Min_int64_int64_x1_0 x113 = some y := G
  unfold slices_Min_int64_int64_x1_0 at G
  exact hb1 x113 G U w (J.sub _ rfl) X
 refine wp_loop_fn hl113 (fun s U w => FR 25 [] U [(0, .slice A0 n0 c0), (3, .int .i64 s.1), (4, .int .i64 s.2)] ∧ SH r (L) w) ⟨J.sub _ rfl, X⟩ ?_
 intro N113 s113 o113 G N113_ T113_ U w hLab
 obtain ⟨x114, x115⟩ := s113
 replace G : slices_Min_int64_int64_l1 a0 x114 x115 = some o113 := G
 unfold slices_Min_int64_int64_l1 at G
 try dsimp only at hLab
 obtain ⟨J, X⟩ := hLab
 refine wp_seq_k fun K116 hK116 => ?_
 refine ws fun K117 hK117 => ?_
 refine x_m J rfl fun U J => ?_
 refine x_m J rfl fun U J => ?_
 refine x_len' uu90 (X.rdl 0 ha0 rfl).2.1 J (fun U J => ?_) rfl
 refine x_v J (r_ltI rfl (J.ev rfl) (J.ev rfl)) rfl fun U J => ?_
 refine wn (hK117 _ _ ?_)
 refine c_if J rfl (fun hb118 => ?_) fun hb118 => ?_
 ·replace G := ift hb118 G
  refine wp_skip ?_
  refine hK116 _ _ ?_
  refine wp_seq_k fun K119 hK119 => ?_
  refine wp_block_k fun Kx120 hKx120 => ?_
  refine wp_reg ?_
  refine x_m J rfl fun U J => ?_
  refine x_m J rfl fun U J => ?_
  refine x_m J rfl fun U J => ?_
  obtain ⟨x121, h122, G⟩ := bnd G
  refine x_ia' uu90 sz2 (X.rdl 0 ha0 rfl) h122 J (fun U J => ?_) rfl
  obtain ⟨cs, hV, hc123⟩ := el (X.rdl 0 ha0 rfl) h122
  obtain rfl := hV
  refine x_ld' uu2 (hc123 0 _ rfl) J (fun U J => ?_) rfl
  refine x_v J (r_minI rfl (J.ev rfl) (J.ev rfl)) rfl fun U J => ?_
  refine x_m J rfl fun U J => ?_
  refine wpList_nil ?_
  refine hKx120 _ _ ?_
  refine hK119 _ _ ?_
  refine wp_reg ?_
  refine x_m J rfl fun U J => ?_
  obtain ⟨x124, h125, G⟩ := ltt_ G
  refine x_v (v := .int .i64 x124) J (rv_i h125 (r_add rfl (J.ev rfl) (J.ev rfl))) rfl fun U J => ?_
  refine x_m J rfl fun U J => ?_
  refine wpList_nil ?_
  cases G
  exact ⟨_, N113_ _ rfl, J.sub _ rfl, X⟩
 replace G := iff' hb118 G
 refine wp_exit ?_
 cases G
 exact hx113_0 x114 (T113_ _ rfl) U w (J.sub _ rfl) X
theorem F_bits_Len64 {r : World} {L : List HP} {w : World} (a0 : Int) {y : (Int)} (G : bits_Len64 a0 = some y) (X : SH r (L) w) :
  Ret Tryd.prog 97 #[.int .u64 a0] w fun v w' => v = .int .i64 y ∧ SH r (L) w' := by
 refine enter Tryd.func97 rfl Tryd.ntmps97 [(0, .int .u64 a0)] rfl (by simp) ?_
 intro U J Qf hQ hQn
 unfold bits_Len64 at G
 refine ws fun K100 hK100 => ?_
 refine x_m J rfl fun U J => ?_
 refine wn (hK100 _ _ ?_)
 refine wp_seq_k fun K101 hK101 => ?_
 have hj1 : ∀ (x102 : Int) (x103 : Int), bits_Len64_j1 x102 x103 = some y → ∀ (U : Act) (w : World), FR 25 [] U [(0, .int .u64 x102), (2, .int .i64 x103)] → SH r (L) w → K101 U w := by
  intro x102 x103 G U w J X
  unfold bits_Len64_j1 at G
  refine hK101 _ _ ?_
  refine wp_seq_k fun K104 hK104 => ?_
  have hj2 : ∀ (x105 : Int) (x106 : Int), bits_Len64_j2 x105 x106 = some y → ∀ (U : Act) (w : World), FR 25 [] U [(0, .int .u64 x105), (2, .int .i64 x106)] → SH r (L) w → K104 U w := by
   intro x105 x106 G U w J X
   unfold bits_Len64_j2 at G
   refine hK104 _ _ ?_
   refine wp_seq_k fun K107 hK107 => ?_
   have hj3 : ∀ (x108 : Int) (x109 : Int), bits_Len64_j3 x108 x109 = some y → ∀ (U : Act) (w : World), FR 25 [] U [(0, .int .u64 x108), (2, .int .i64 x109)] → SH r (L) w → K107 U w := by
    intro x108 x109 G U w J X
    unfold bits_Len64_j3 at G
    refine hK107 _ _ ?_
    refine ws fun K110 hK110 => ?_
    refine x_m J rfl fun U J => ?_
    refine x_m J rfl fun U J => ?_
    obtain ⟨x111, h112, G⟩ := ltt_ G
    refine x_v (v := .int .u8 x111) J (rv_i h112 (r_convI uu31 uu5 rfl (J.ev rfl))) rfl fun U J => ?_
    obtain ⟨x113, h114, G⟩ := bnd G
    refine x_v J (r_indexS uu9 rfl (J.ev rfl) (J.ev rfl) (at_some h114).1 (at_some h114).2.2) rfl fun U J => ?_
    obtain ⟨x115, h116, G⟩ := ltt_ G
    refine x_v (v := .int .i64 x115) J (rv_i h116 (r_convI uu5 uu3 rfl (J.ev rfl))) rfl fun U J => ?_
    obtain ⟨x117, h118, G⟩ := ltt_ G
    refine x_v (v := .int .i64 x117) J (rv_i h118 (r_add rfl (J.ev rfl) (J.ev rfl))) rfl fun U J => ?_
    refine x_m J rfl fun U J => ?_
    refine wn (hK110 _ _ ?_)
    refine wp_ret ?_
    cases G
    refine hQ _ _ ?_
    refine lv Tryd.results97 J rfl ?_
    exact ⟨rfl, X⟩
   refine ws fun K119 hK119 => ?_
   refine x_m J rfl fun U J => ?_
   refine x_v J (r_geI rfl (J.ev rfl) (J.ev rfl)) rfl fun U J => ?_
   refine wn (hK119 _ _ ?_)
   refine c_if J rfl (fun hb120 => ?_) fun hb120 => ?_
   ·replace G := ift hb120 G
    refine ws fun K121 hK121 => ?_
    refine x_m J rfl fun U J => ?_
    obtain ⟨x122, h123, G⟩ := ltt_ G
    refine x_v (v := .int .u64 x122) J (rv_i h123 (r_shr rfl (J.ev rfl) (J.ev rfl) (by decide))) rfl fun U J => ?_
    refine x_m J rfl fun U J => ?_
    refine wn (hK121 _ _ ?_)
    refine wp_reg ?_
    refine x_m J rfl fun U J => ?_
    obtain ⟨x124, h125, G⟩ := ltt_ G
    refine x_v (v := .int .i64 x124) J (rv_i h125 (r_add rfl (J.ev rfl) (J.ev rfl))) rfl fun U J => ?_
    refine x_m J rfl fun U J => ?_
    refine wpList_nil ?_
    exact hj3 x122 x124 G U w (J.sub _ rfl) X
   replace G := iff' hb120 G
   refine wp_skip ?_
   exact hj3 x105 x106 G U w (J.sub _ rfl) X
  refine ws fun K126 hK126 => ?_
  refine x_m J rfl fun U J => ?_
  refine x_v J (r_geI rfl (J.ev rfl) (J.ev rfl)) rfl fun U J => ?_
  refine wn (hK126 _ _ ?_)
  refine c_if J rfl (fun hb127 => ?_) fun hb127 => ?_
  ·replace G := ift hb127 G
   refine ws fun K128 hK128 => ?_
   refine x_m J rfl fun U J => ?_
   obtain ⟨x129, h130, G⟩ := ltt_ G
   refine x_v (v := .int .u64 x129) J (rv_i h130 (r_shr rfl (J.ev rfl) (J.ev rfl) (by decide))) rfl fun U J => ?_
   refine x_m J rfl fun U J => ?_
   refine wn (hK128 _ _ ?_)
   refine wp_reg ?_
   refine x_m J rfl fun U J => ?_
   obtain ⟨x131, h132, G⟩ := ltt_ G
   refine x_v (v := .int .i64 x131) J (rv_i h132 (r_add rfl (J.ev rfl) (J.ev rfl))) rfl fun U J => ?_
   refine x_m J rfl fun U J => ?_
   refine wpList_nil ?_
   exact hj2 x129 x131 G U w (J.sub _ rfl) X
  replace G := iff' hb127 G
  refine wp_skip ?_
  exact hj2 x102 x103 G U w (J.sub _ rfl) X
 refine ws fun K133 hK133 => ?_
 refine x_m J rfl fun U J => ?_
 refine x_v J (r_geI rfl (J.ev rfl) (J.ev rfl)) rfl fun U J => ?_
 refine wn (hK133 _ _ ?_)
 refine c_if J rfl (fun hb134 => ?_) fun hb134 => ?_
 ·replace G := ift hb134 G
  refine ws fun K135 hK135 => ?_
  refine x_m J rfl fun U J => ?_
  obtain ⟨x136, h137, G⟩ := ltt_ G
  refine x_v (v := .int .u64 x136) J (rv_i h137 (r_shr rfl (J.ev rfl) (J.ev rfl) (by decide))) rfl fun U J => ?_
  refine x_m J rfl fun U J => ?_
  refine wn (hK135 _ _ ?_)
  refine wp_reg ?_
  refine x_m J rfl fun U J => ?_
  refine wpList_nil ?_
  exact hj1 x136 32 G U w (J.sub _ rfl) X
 replace G := iff' hb134 G
 refine wp_skip ?_
 exact hj1 a0 0 G U w (J.sub _ rfl) X
theorem F_column_pack {r : World} {L : List HP} {w : World} (a0 : (List Int)) (a1 : (List Int)) (A0 : Option Addr) (n0 : Nat) (c0 : Nat) (A1 : Option Addr) (n1 : Nat) (c1 : Nat) {y : ((List Int))} (G : column_pack a0 a1 = some y) (ha1 : RdL L (kI .i64) A1 n1 c1 a1) (X : SH r (own (kI .u8) 5 A0 n0 c0 a0 :: L) w) :
  Ret Tryd.prog 83 #[.slice A0 n0 c0, .slice A1 n1 c1] w fun v w' => ∃ (B0 : Option Addr) (m0 : Nat) (d0 : Nat), v = .slice B0 m0 d0 ∧ SH r (own (kI .u8) 5 B0 m0 d0 y :: L) w' := by
 refine enter Tryd.func83 rfl Tryd.ntmps83 [(0, .slice A0 n0 c0), (1, .slice A1 n1 c1)] rfl (by simp) ?_
 intro U J Qf hQ hQn
 unfold column_pack at G
 refine ws fun K100 hK100 => ?_
 refine x_m J rfl fun U J => ?_
 refine wn (hK100 _ _ ?_)
 refine wp_seq_k fun K101 hK101 => ?_
 refine ws fun K102 hK102 => ?_
 refine x_m J rfl fun U J => ?_
 refine x_len' uu90 (X.rdl 1 ha1 rfl).2.1 J (fun U J => ?_) rfl
 refine x_v J (r_eqI rfl (J.ev rfl) (J.ev rfl)) rfl fun U J => ?_
 refine wn (hK102 _ _ ?_)
 refine c_if J rfl (fun hb103 => ?_) fun hb103 => ?_
 ·replace G := ift hb103 G
  refine ws fun K104 hK104 => ?_
  refine x_m J rfl fun U J => ?_
  refine x_m J rfl fun U J => ?_
  refine wn (hK104 _ _ ?_)
  refine wp_ret ?_
  cases G
  refine hQ _ _ ?_
  refine lv Tryd.results83 J rfl ?_
  exact ⟨A0, n0, c0, rfl, X⟩
 replace G := iff' hb103 G
 refine wp_skip ?_
 refine hK101 _ _ ?_
 refine ws fun K105 hK105 => ?_
 refine x_m J rfl fun U J => ?_
 obtain ⟨y106, h107, G⟩ := bnd G
 refine x_call' en96 J (F_slices_Min_int64_int64 (L := own (kI .u8) 5 A0 n0 c0 a0 :: L) a1 A1 n1 c1 h107 (RdL.sfx 1 rfl ha1) X) (fun v U w hR J => ?_) rfl
 obtain ⟨rfl, X⟩ := hR
 refine x_m J rfl fun U J => ?_
 refine wn (hK105 _ _ ?_)
 refine ws fun K108 hK108 => ?_
 refine x_m J rfl fun U J => ?_
 refine wn (hK108 _ _ ?_)
 refine wp_seq_k fun K109 hK109 => ?_
 refine ws fun K110 hK110 => ?_
 refine x_m J rfl fun U J => ?_
 refine x_len' uu90 (X.rdl 1 ha1 rfl).2.1 J (fun U J => ?_) rfl
 refine x_m J rfl fun U J => ?_
 refine wn (hK110 _ _ ?_)
 refine wp_block_k fun Kx111 hKx111 => ?_
 have hb1 : ∀ (x112 : Int), column_pack_b1 a0 a1 y106 x112 = some y → ∀ (U : Act) (w : World), FR 83 [] U [(0, .slice A0 n0 c0), (1, .slice A1 n1 c1), (5, .int .i64 y106), (6, .int .i64 x112)] → SH r (own (kI .u8) 5 A0 n0 c0 a0 :: L) w → Kx111 U w := by
  intro x112 G U w J X
  unfold column_pack_b1 at G
  refine hKx111 _ _ ?_
  refine hK109 _ _ ?_
  refine ws fun K113 hK113 => ?_
  refine x_m J rfl fun U J => ?_
  refine x_m J rfl fun U J => ?_
  obtain ⟨y114, h115, G⟩ := bnd G
  refine x_call' en28 J (F_column_Int (L := L) a0 y106 A0 n0 c0 h115 X) (fun v U w hR J => ?_) rfl
  obtain ⟨B116, m117, d118, rfl, X⟩ := hR
  refine x_m J rfl fun U J => ?_
  obtain ⟨x119, h120, G⟩ := ltt_ G
  refine x_v (v := .int .u8 x119) J (rv_i h120 (r_convI uu3 uu5 rfl (J.ev rfl))) rfl fun U J => ?_
  refine x_bsl' (d := (kI .u8)) (e := 5) (ps := #[(0, .int .u8 x119)]) (cells := [.int .u8 x119]) (xs := [x119]) (fun w => by kernel_rfl) rfl ⟨[.int .u8 x119], _, rfl, rfl, rfl⟩ J X (fun g121 U w X J => ?_) rfl
  obtain ⟨h122, G⟩ := chk_some G
  have hr := X.rd 0 rfl
  refine x_app' 1 inf5 uu24 J X hr.1 hr.2.1 h122 rfl (fun A123 n124 c125 U w X J => ?_) rfl
  refine x_m J rfl fun U J => ?_
  refine wn (hK113 _ _ ?_)
  refine ws fun K126 hK126 => ?_
  refine x_m J rfl fun U J => ?_
  refine wn (hK126 _ _ ?_)
  refine ws fun K127 hK127 => ?_
  refine x_m J rfl fun U J => ?_
  refine x_len' uu90 (X.rdl 2 ha1 rfl).2.1 J (fun U J => ?_) rfl
  refine x_m J rfl fun U J => ?_
  obtain ⟨x128, h129, G⟩ := ltt_ G
  refine x_v (v := .int .i64 x128) J (rv_i h129 (r_mul rfl (J.ev rfl) (J.ev rfl))) rfl fun U J => ?_
  obtain ⟨x130, h131, G⟩ := ltt_ G
  refine x_v (v := .int .i64 x130) J (rv_i h131 (r_add rfl (J.ev rfl) (J.ev rfl))) rfl fun U J => ?_
  obtain ⟨x132, h133, G⟩ := ltt_ G
  refine x_v (v := .int .i64 x132) J (rv_i h133 (r_quo rfl (J.ev rfl) (J.ev rfl) (by decide))) rfl fun U J => ?_
  obtain ⟨h134, G⟩ := chk_some G
  refine x_mks' (d := (kI .u8)) (bytes := 1) 0 inf5 rfl uu24 h134 J X (fun g135 U w X J => ?_) rfl
  refine x_m J rfl fun U J => ?_
  refine wn (hK127 _ _ ?_)
  refine wp_seq_k fun K136 hK136 => ?_
  refine ws fun K137 hK137 => ?_
  refine x_m J rfl fun U J => ?_
  refine x_len' uu90 (X.rdl 3 ha1 rfl).2.1 J (fun U J => ?_) rfl
  refine x_m J rfl fun U J => ?_
  refine wn (hK137 _ _ ?_)
  refine wp_block_k fun Kx138 hKx138 => ?_
  have hb2 : ∀ (l139 : (List Int)), column_pack_b2 y114 x119 l139 = some y → ∀ (U : Act) (w : World), FR 83 [] U [(0, .slice A123 n124 c125), (10, .slice (some ⟨g135, 0, none⟩) x132.toNat x132.toNat)] → SH r (own (kI .u8) 5 A123 n124 c125 (y114 ++ [x119]) :: own (kI .u8) 5 (some ⟨g135, 0, none⟩) x132.toNat x132.toNat l139 :: L) w → Kx138 U w := by
   intro l139 G U w J X
   unfold column_pack_b2 at G
   refine hKx138 _ _ ?_
   refine hK136 _ _ ?_
   refine ws fun K140 hK140 => ?_
   refine x_m J rfl fun U J => ?_
   refine x_m J rfl fun U J => ?_
   obtain ⟨h141, G⟩ := chk_some G
   have hr := X.rd 1 rfl
   refine x_app' 0 inf5 uu24 J X hr.1 hr.2.1 h141 rfl (fun A142 n143 c144 U w X J => ?_) rfl
   refine x_m J rfl fun U J => ?_
   refine wn (hK140 _ _ ?_)
   refine wp_ret ?_
   replace X := X.drop 1
   cases G
   refine hQ _ _ ?_
   refine lv Tryd.results83 J rfl ?_
   exact ⟨A142, n143, c144, rfl, X⟩
  obtain ⟨t145, hl145, G⟩ := bnd G
  have hx145_2 : ∀ (l145 : (List Int)), (l145) = t145 → ∀ (U : Act) (w : World), FR 83 [] U [(0, .slice A123 n124 c125), (10, .slice (some ⟨g135, 0, none⟩) x132.toNat x132.toNat)] → SH r (own (kI .u8) 5 A123 n124 c125 (y114 ++ [x119]) :: own (kI .u8) 5 (some ⟨g135, 0, none⟩) x132.toNat x132.toNat l145 :: L) w → Kx138 U w := by
   intro l145 ht U w J X
   subst ht
   replace G : column_pack_x1_2 y114 x119 l145 = some y := G
   unfold column_pack_x1_2 at G
   exact hb2 l145 G U w (J.sub _ rfl) X
  replace X := X.drop 2 |>.pk 1
  refine wp_loop_fn hl145 (fun s U w => FR 83 [] U [(0, .slice A123 n124 c125), (5, .int .i64 y106), (6, .int .i64 x112), (9, .int .i64 s.1), (10, .slice (some ⟨g135, 0, none⟩) x132.toNat x132.toNat), (48, .slice A1 n1 c1), (49, .int .i64 (a1.length : Int)), (50, .int .i64 s.2.2)] ∧ SH r (own (kI .u8) 5 A123 n124 c125 (y114 ++ [x119]) :: own (kI .u8) 5 (some ⟨g135, 0, none⟩) x132.toNat x132.toNat s.2.1 :: L) w) ⟨J.sub _ rfl, X⟩ ?_
  intro N145 s145 o145 G N145_ T145_ U w hLab
  obtain ⟨x146, l147, x148⟩ := s145
  replace G : column_pack_l1 a1 y106 x112 x146 l147 x148 = some o145 := G
  unfold column_pack_l1 at G
  try dsimp only at hLab
  obtain ⟨J, X⟩ := hLab
  refine ws fun K149 hK149 => ?_
  refine x_v J (r_ltI rfl (J.ev rfl) (J.ev rfl)) rfl fun U J => ?_
  refine wn (hK149 _ _ ?_)
  refine wp_seq_k fun K150 hK150 => ?_
  refine c_if J rfl (fun hb151 => ?_) fun hb151 => ?_
  ·replace G := ift hb151 G
   refine wp_skip ?_
   refine hK150 _ _ ?_
   refine wp_seq_k fun K152 hK152 => ?_
   refine wp_block_k fun Kx153 hKx153 => ?_
   refine ws fun K154 hK154 => ?_
   obtain ⟨x155, h156, G⟩ := bnd G
   refine x_ia' uu90 sz2 (X.rdl 2 ha1 rfl) h156 J (fun U J => ?_) rfl
   obtain ⟨cs, hV, hc157⟩ := el (X.rdl 2 ha1 rfl) h156
   obtain rfl := hV
   refine x_ld' uu2 (hc157 0 _ rfl) J (fun U J => ?_) rfl
   refine x_m J rfl fun U J => ?_
   refine wn (hK154 _ _ ?_)
   refine ws fun K158 hK158 => ?_
   refine x_m J rfl fun U J => ?_
   refine x_m J rfl fun U J => ?_
   refine wn (hK158 _ _ ?_)
   refine wp_block_k fun Kx159 hKx159 => ?_
   have hb3 : ∀ (x160 : Int) (l161 : (List Int)), column_pack_b3 x148 x160 l161 = some o145 → ∀ (U : Act) (w : World), FR 83 [] U [(0, .slice A123 n124 c125), (5, .int .i64 y106), (6, .int .i64 x112), (9, .int .i64 x160), (10, .slice (some ⟨g135, 0, none⟩) x132.toNat x132.toNat), (48, .slice A1 n1 c1), (49, .int .i64 (a1.length : Int)), (50, .int .i64 x148)] → SH r (own (kI .u8) 5 A123 n124 c125 (y114 ++ [x119]) :: own (kI .u8) 5 (some ⟨g135, 0, none⟩) x132.toNat x132.toNat l161 :: L) w → Kx159 U w := by
    intro x160 l161 G U w J X
    unfold column_pack_b3 at G
    refine hKx159 _ _ ?_
    refine hKx153 _ _ ?_
    refine hK152 _ _ ?_
    refine wp_reg ?_
    obtain ⟨x162, h163, G⟩ := ltt_ G
    refine x_v (v := .int .i64 x162) J (rv_i h163 (r_add rfl (J.ev rfl) (J.ev rfl))) rfl fun U J => ?_
    refine x_m J rfl fun U J => ?_
    refine wpList_nil ?_
    cases G
    exact ⟨_, N145_ _ rfl, J.sub _ rfl, X⟩
   obtain ⟨t164, hl164, G⟩ := bnd G
   have hx164_4 : ∀ (x165 : Int) (l164 : (List Int)), (x165, l164) = t164 → ∀ (U : Act) (w : World), FR 83 [] U [(0, .slice A123 n124 c125), (5, .int .i64 y106), (6, .int .i64 x112), (9, .int .i64 x165), (10, .slice (some ⟨g135, 0, none⟩) x132.toNat x132.toNat), (48, .slice A1 n1 c1), (49, .int .i64 (a1.length : Int)), (50, .int .i64 x148)] → SH r (own (kI .u8) 5 A123 n124 c125 (y114 ++ [x119]) :: own (kI .u8) 5 (some ⟨g135, 0, none⟩) x132.toNat x132.toNat l164 :: L) w → Kx159 U w := by
    intro x165 l164 ht U w J X
    subst ht
    replace G : column_pack_x2_4 x148 x165 l164 = some o145 := G
    unfold column_pack_x2_4 at G
    exact hb3 x165 l164 G U w (J.sub _ rfl) X
   refine wp_loop_fn hl164 (fun s U w => FR 83 [] U [(0, .slice A123 n124 c125), (5, .int .i64 y106), (6, .int .i64 x112), (9, .int .i64 s.1), (10, .slice (some ⟨g135, 0, none⟩) x132.toNat x132.toNat), (12, .int .i64 x155), (48, .slice A1 n1 c1), (49, .int .i64 (a1.length : Int)), (50, .int .i64 x148), (54, .int .i64 x112), (55, .int .i64 s.2.2)] ∧ SH r (own (kI .u8) 5 A123 n124 c125 (y114 ++ [x119]) :: own (kI .u8) 5 (some ⟨g135, 0, none⟩) x132.toNat x132.toNat s.2.1 :: L) w) ⟨J.sub _ rfl, X⟩ ?_
   intro N164 s164 o164 G N164_ T164_ U w hLab
   obtain ⟨x166, l167, x168⟩ := s164
   replace G : column_pack_l2 y106 x112 x155 x166 l167 x168 = some o164 := G
   unfold column_pack_l2 at G
   try dsimp only at hLab
   obtain ⟨J, X⟩ := hLab
   refine ws fun K169 hK169 => ?_
   refine x_v J (r_ltI rfl (J.ev rfl) (J.ev rfl)) rfl fun U J => ?_
   refine wn (hK169 _ _ ?_)
   refine wp_seq_k fun K170 hK170 => ?_
   refine c_if J rfl (fun hb171 => ?_) fun hb171 => ?_
   ·replace G := ift hb171 G
    refine wp_skip ?_
    refine hK170 _ _ ?_
    refine wp_seq_k fun K172 hK172 => ?_
    refine wp_block_k fun Kx173 hKx173 => ?_
    refine ws fun K174 hK174 => ?_
    refine x_m J rfl fun U J => ?_
    refine x_m J rfl fun U J => ?_
    refine wn (hK174 _ _ ?_)
    refine wp_seq_k fun K175 hK175 => ?_
    refine wp_draw [0, 0, 2, 7, 15, 0, 0, 96, 224, 0, 992, 2016, 4064, 0, 8192, 32736, 65535, 131071, 262143] [18] rfl J X (by kernel_rfl) (by kernel_rfl) (by kernel_rfl) (by kernel_rfl) fun w X => ?_
    obtain ⟨x176, h177, G⟩ := ltt_ G
    obtain ⟨x178, h179, G⟩ := bnd G
    obtain ⟨cs, hV, hc180⟩ := el (X.rd 1 rfl) h179
    obtain rfl := hV
    obtain ⟨x181, h182, G⟩ := ltt_ G
    obtain ⟨x183, h184, G⟩ := ltt_ G
    obtain ⟨h185, G⟩ := chk_some G
    obtain ⟨x186, h187, G⟩ := ltt_ G
    obtain ⟨x188, h189, G⟩ := ltt_ G
    obtain ⟨x190, h191, G⟩ := ltt_ G
    obtain ⟨x192, h193, G⟩ := ltt_ G
    obtain ⟨h194, G⟩ := chk_some G
    obtain ⟨x195, h196, G⟩ := ltt_ G
    obtain ⟨x197, h198, G⟩ := ltt_ G
    refine ⟨[(0, .slice (some ⟨g135, 0, none⟩) x132.toNat x132.toNat), (1, .int .i64 x166), (2, .int .i64 x176), (3, .pointer (some (ea (some ⟨g135, 0, none⟩) (x176.toNat * 1)))), (4, .int .u8 x178), (5, .int .i64 x155), (6, .int .i64 y106), (7, .int .i64 x181), (8, .int .u64 x183), (9, .int .i64 x168), (10, .int .u64 x186), (11, .int .u64 x188), (12, .int .u8 x190), (13, .int .i64 x166), (14, .int .i64 x192), (15, .int .u8 x195), (16, .int .u8 x197), (17, .pointer (some (ea (some ⟨g135, 0, none⟩) (x176.toNat * 1))))], ?_⟩
    refine dF [0, 1, 2, 3, 4, 5, 6, 7, 8, 9, 10, 11, 12, 13, 14, 15, 16, 17] [18] (by kernel_rfl) ⟨pm rfl, pm rfl, pt [(59, .int .i64 x166)] rfl (fun U J => (rv_i h177 (r_quo rfl (J.ev rfl) (J.ev rfl) (by decide)) : RunV _ _ _ _ (.int .i64 x176))), pt [(58, .slice (some ⟨g135, 0, none⟩) x132.toNat x132.toNat), (60, .int .i64 x176)] rfl (fun U J => y_ia uu24 sz5 (X.rd 1 rfl) h179 J rfl rfl rfl), pt [(61, .pointer (some (ea (some ⟨g135, 0, none⟩) (x176.toNat * 1))))] rfl (fun U J => y_ld uu5 (hc180 0 _ rfl) J rfl rfl rfl), pm rfl, pm rfl, pt [(63, .int .i64 x155), (64, .int .i64 y106)] rfl (fun U J => (rv_i h182 (r_sub rfl (J.ev rfl) (J.ev rfl)) : RunV _ _ _ _ (.int .i64 x181))), pt [(65, .int .i64 x181)] rfl (fun U J => (rv_i h184 (r_convI uu2 uu31 rfl (J.ev rfl)) : RunV _ _ _ _ (.int .u64 x183))), pm rfl, pt [(66, .int .u64 x183), (67, .int .i64 x168)] rfl (fun U J => (rv_i h187 (r_shr rfl (J.ev rfl) (J.ev rfl) h185) : RunV _ _ _ _ (.int .u64 x186))), pt [(68, .int .u64 x186)] rfl (fun U J => (rv_i h189 (r_and rfl (J.ev rfl) (J.ev rfl)) : RunV _ _ _ _ (.int .u64 x188))), pt [(69, .int .u64 x188)] rfl (fun U J => (rv_i h191 (r_convI uu31 uu5 rfl (J.ev rfl)) : RunV _ _ _ _ (.int .u8 x190))), pm rfl, pt [(71, .int .i64 x166)] rfl (fun U J => (rv_i h193 (r_rem rfl (J.ev rfl) (J.ev rfl) (by decide)) : RunV _ _ _ _ (.int .i64 x192))), pt [(70, .int .u8 x190), (72, .int .i64 x192)] rfl (fun U J => (rv_i h196 (r_shl rfl (J.ev rfl) (J.ev rfl) h194) : RunV _ _ _ _ (.int .u8 x195))), pt [(62, .int .u8 x178), (73, .int .u8 x195)] rfl (fun U J => (rv_i h198 (r_or rfl (J.ev rfl) (J.ev rfl)) : RunV _ _ _ _ (.int .u8 x197))), pt [(58, .slice (some ⟨g135, 0, none⟩) x132.toNat x132.toNat), (60, .int .i64 x176)] rfl (fun U J => y_ia uu24 sz5 (X.rd 1 rfl) h179 J rfl rfl rfl), trivial⟩ ⟨et [(74, .int .u8 x197), (75, .pointer (some (ea (some ⟨g135, 0, none⟩) (x176.toNat * 1))))] rfl (fun U J K hK => ?_), trivial⟩
    refine z_sto (z' := x197) (off := 0) (vs := [.int .u8 x197]) 1 sz5 J X rfl (at_some h179).2.2 (fun c h => by cases h; rfl) (fun  w X => ?_) rfl rfl rfl rfl rfl rfl
    refine hK _ [] _ rfl ?_
    refine dEnd [] (by kernel_rfl) trivial ⟨by kernel_rfl, by kernel_rfl⟩ [(0, .slice A123 n124 c125), (5, .int .i64 y106), (6, .int .i64 x112), (9, .int .i64 x166), (10, .slice (some ⟨g135, 0, none⟩) x132.toNat x132.toNat), (12, .int .i64 x155), (48, .slice A1 n1 c1), (49, .int .i64 (a1.length : Int)), (50, .int .i64 x148), (54, .int .i64 x112), (55, .int .i64 x168)] rfl (fun U J => ?_)
    refine hK175 _ _ ?_
    refine wp_reg ?_
    refine x_m J rfl fun U J => ?_
    obtain ⟨x199, h200, G⟩ := ltt_ G
    refine x_v (v := .int .i64 x199) J (rv_i h200 (r_add rfl (J.ev rfl) (J.ev rfl))) rfl fun U J => ?_
    refine x_m J rfl fun U J => ?_
    refine wpList_nil ?_
    refine hKx173 _ _ ?_
    refine hK172 _ _ ?_
    refine wp_reg ?_
    obtain ⟨x201, h202, G⟩ := ltt_ G
    refine x_v (v := .int .i64 x201) J (rv_i h202 (r_add rfl (J.ev rfl) (J.ev rfl))) rfl fun U J => ?_
    refine x_m J rfl fun U J => ?_
    refine wpList_nil ?_
    replace X := X.pk 1
    cases G
    exact ⟨_, N164_ _ rfl, J.sub _ rfl, X⟩
   replace G := iff' hb171 G
   refine wp_exit ?_
   cases G
   exact hx164_4 x166 l167 (T164_ _ rfl) U w (J.sub _ rfl) X
  replace G := iff' hb151 G
  refine wp_exit ?_
  cases G
  exact hx145_2 l147 (T145_ _ rfl) U w (J.sub _ rfl) X
 obtain ⟨t203, hl203, G⟩ := bnd G
 have hx203_0 : ∀ (x203 : Int), (x203) = t203 → ∀ (U : Act) (w : World), FR 83 [] U [(0, .slice A0 n0 c0), (1, .slice A1 n1 c1), (5, .int .i64 y106), (6, .int .i64 x203)] → SH r (own (kI .u8) 5 A0 n0 c0 a0 :: L) w → Kx111 U w := by
  intro x203 ht U w J X
  subst ht
  replace G : column_pack_x3_0 a0 a1 y106 x203 = some y := G
  unfold column_pack_x3_0 at G
  exact hb1 x203 G U w (J.sub _ rfl) X
 refine wp_loop_fn hl203 (fun s U w => FR 83 [] U [(0, .slice A0 n0 c0), (1, .slice A1 n1 c1), (5, .int .i64 y106), (6, .int .i64 s.1), (20, .slice A1 n1 c1), (21, .int .i64 (a1.length : Int)), (22, .int .i64 s.2)] ∧ SH r (own (kI .u8) 5 A0 n0 c0 a0 :: L) w) ⟨J.sub _ rfl, X⟩ ?_
 intro N203 s203 o203 G N203_ T203_ U w hLab
 obtain ⟨x204, x205⟩ := s203
 replace G : column_pack_l3 a1 y106 x204 x205 = some o203 := G
 unfold column_pack_l3 at G
 try dsimp only at hLab
 obtain ⟨J, X⟩ := hLab
 refine ws fun K206 hK206 => ?_
 refine x_v J (r_ltI rfl (J.ev rfl) (J.ev rfl)) rfl fun U J => ?_
 refine wn (hK206 _ _ ?_)
 refine wp_seq_k fun K207 hK207 => ?_
 refine c_if J rfl (fun hb208 => ?_) fun hb208 => ?_
 ·replace G := ift hb208 G
  refine wp_skip ?_
  refine hK207 _ _ ?_
  refine wp_seq_k fun K209 hK209 => ?_
  refine wp_block_k fun Kx210 hKx210 => ?_
  refine ws fun K211 hK211 => ?_
  obtain ⟨x212, h213, G⟩ := bnd G
  refine x_ia' uu90 sz2 (X.rdl 1 ha1 rfl) h213 J (fun U J => ?_) rfl
  obtain ⟨cs, hV, hc214⟩ := el (X.rdl 1 ha1 rfl) h213
  obtain rfl := hV
  refine x_ld' uu2 (hc214 0 _ rfl) J (fun U J => ?_) rfl
  refine x_m J rfl fun U J => ?_
  refine wn (hK211 _ _ ?_)
  refine wp_reg ?_
  refine x_m J rfl fun U J => ?_
  refine x_m J rfl fun U J => ?_
  refine x_m J rfl fun U J => ?_
  obtain ⟨x215, h216, G⟩ := ltt_ G
  refine x_v (v := .int .i64 x215) J (rv_i h216 (r_sub rfl (J.ev rfl) (J.ev rfl))) rfl fun U J => ?_
  obtain ⟨x217, h218, G⟩ := ltt_ G
  refine x_v (v := .int .u64 x217) J (rv_i h218 (r_convI uu2 uu31 rfl (J.ev rfl))) rfl fun U J => ?_
  obtain ⟨y219, h220, G⟩ := bnd G
  refine x_call' en97 J (F_bits_Len64 (L := own (kI .u8) 5 A0 n0 c0 a0 :: L) x217 h220 X) (fun v U w hR J => ?_) rfl
  obtain ⟨rfl, X⟩ := hR
  refine x_v J (r_maxI rfl (J.ev rfl) (J.ev rfl)) rfl fun U J => ?_
  refine x_m J rfl fun U J => ?_
  refine wpList_nil ?_
  refine hKx210 _ _ ?_
  refine hK209 _ _ ?_
  refine wp_reg ?_
  obtain ⟨x221, h222, G⟩ := ltt_ G
  refine x_v (v := .int .i64 x221) J (rv_i h222 (r_add rfl (J.ev rfl) (J.ev rfl))) rfl fun U J => ?_
  refine x_m J rfl fun U J => ?_
  refine wpList_nil ?_
  cases G
  exact ⟨_, N203_ _ rfl, J.sub _ rfl, X⟩
 replace G := iff' hb208 G
 refine wp_exit ?_
 cases G
 exact hx203_0 x204 (T203_ _ rfl) U w (J.sub _ rfl) X
theorem F_column_As {r : World} {L : List HP} {w : World} (a0 : Int) (a1 : (List Int)) (A1 : Option Addr) (n1 : Nat) (c1 : Nat) {y : ((List Int))} (G : column_As a0 a1 = some y) (ha1 : RdL L (kI .i64) A1 n1 c1 a1) (X : SH r (L) w) :
  Ret Tryd.prog 68 #[.int .u8 a0, .slice A1 n1 c1] w fun v w' => ∃ (B0 : Option Addr) (m0 : Nat) (d0 : Nat), v = .slice B0 m0 d0 ∧ SH r (own (kI .u8) 5 B0 m0 d0 y :: L) w' := by
 refine enter Tryd.func68 rfl Tryd.ntmps68 [(0, .int .u8 a0), (1, .slice A1 n1 c1)] rfl (by simp) ?_
 intro U J Qf hQ hQn
 unfold column_As at G
 refine ws fun K100 hK100 => ?_
 refine x_m J rfl fun U J => ?_
 refine wn (hK100 _ _ ?_)
 refine ws fun K101 hK101 => ?_
 refine x_m J rfl fun U J => ?_
 refine x_bsl' (d := (kI .u8)) (e := 5) (ps := #[(0, .int .u8 a0)]) (cells := [.int .u8 a0]) (xs := [a0]) (fun w => by kernel_rfl) rfl ⟨[.int .u8 a0], _, rfl, rfl, rfl⟩ J X (fun g102 U w X J => ?_) rfl
 refine x_m J rfl fun U J => ?_
 refine x_len' uu90 (X.rdl 1 ha1 rfl).2.1 J (fun U J => ?_) rfl
 obtain ⟨x103, h104, G⟩ := ltt_ G
 refine x_v (v := .int .u64 x103) J (rv_i h104 (r_convI uu3 uu31 rfl (J.ev rfl))) rfl fun U J => ?_
 obtain ⟨y105, h106, G⟩ := bnd G
 refine x_call' en48 J (F_column_Uint (L := L) [a0] x103 (some ⟨g102, 0, none⟩) 1 1 h106 X) (fun v U w hR J => ?_) rfl
 obtain ⟨B107, m108, d109, rfl, X⟩ := hR
 refine x_m J rfl fun U J => ?_
 refine wn (hK101 _ _ ?_)
 refine wp_seq_k fun K110 hK110 => ?_
 refine ws fun K111 hK111 => ?_
 refine x_m J rfl fun U J => ?_
 refine wn (hK111 _ _ ?_)
 refine wp_block_k fun Kx112 hKx112 => ?_
 have hb1 : ∀ (l113 : (List Int)), column_As_b1 l113 = some y → ∀ (A114 : Option Addr) (n115 : Nat) (c116 : Nat) (U : Act) (w : World), FR 93 [] U [(5, .slice A114 n115 c116)] → SH r (own (kI .u8) 5 A114 n115 c116 l113 :: L) w → Kx112 U w := by
  intro l113 G A114 n115 c116 U w J X
  unfold column_As_b1 at G
  refine hKx112 _ _ ?_
  refine hK110 _ _ ?_
  refine ws fun K117 hK117 => ?_
  refine x_m J rfl fun U J => ?_
  refine x_m J rfl fun U J => ?_
  refine wn (hK117 _ _ ?_)
  refine wp_ret ?_
  cases G
  refine hQ _ _ ?_
  refine lv Tryd.results68 J rfl ?_
  exact ⟨A114, n115, c116, rfl, X⟩
 refine ws fun K118 hK118 => ?_
 refine x_v J (r_eqI rfl (J.ev rfl) (J.ev rfl)) rfl fun U J => ?_
 refine x_m J rfl fun U J => ?_
 refine wn (hK118 _ _ ?_)
 refine c_if J rfl (fun hb119 => ?_) fun hb119 => ?_
 ·replace G := ift hb119 G
  refine ws fun K120 hK120 => ?_
  refine x_m J rfl fun U J => ?_
  refine x_len' uu90 (X.rdl 1 ha1 rfl).2.1 J (fun U J => ?_) rfl
  refine x_m J rfl fun U J => ?_
  refine wn (hK120 _ _ ?_)
  refine wp_block_k fun Kx121 hKx121 => ?_
  have hb2 : ∀ (l122 : (List Int)), column_As_b2 l122 = some y → ∀ (A123 : Option Addr) (n124 : Nat) (c125 : Nat) (U : Act) (w : World), FR 93 [] U [(5, .slice A123 n124 c125)] → SH r (own (kI .u8) 5 A123 n124 c125 l122 :: L) w → Kx121 U w := by
   intro l122 G A123 n124 c125 U w J X
   unfold column_As_b2 at G
   refine hKx121 _ _ ?_
   exact hb1 l122 G A123 n124 c125 U w (J.sub _ rfl) X
  obtain ⟨t126, hl126, G⟩ := bnd G
  have hx126_1 : ∀ (l127 : (List Int)), (l127) = t126 → ∀ (A128 : Option Addr) (n129 : Nat) (c126 : Nat) (U : Act) (w : World), FR 93 [] U [(5, .slice A128 n129 c126)] → SH r (own (kI .u8) 5 A128 n129 c126 l127 :: L) w → Kx121 U w := by
   intro l127 ht A128 n129 c126 U w J X
   subst ht
   replace G : column_As_x1_1 l127 = some y := G
   unfold column_As_x1_1 at G
   exact hb2 l127 G A128 n129 c126 U w (J.sub _ rfl) X
  refine wp_loop_fn hl126 (fun s U w => ∃ (A130 : Option Addr) (n131 : Nat) (c132 : Nat), FR 93 [] U [(5, .slice A130 n131 c132), (22, .slice A1 n1 c1), (23, .int .i64 (a1.length : Int)), (24, .int .i64 s.2)] ∧ SH r (own (kI .u8) 5 A130 n131 c132 s.1 :: L) w) ⟨B107, m108, d109, J.sub _ rfl, X⟩ ?_
  intro N126 s126 o126 G N126_ T126_ U w hLab
  obtain ⟨l133, x134⟩ := s126
  replace G : column_As_l1 a1 l133 x134 = some o126 := G
  unfold column_As_l1 at G
  try dsimp only at hLab
  obtain ⟨A130, n131, c132, J, X⟩ := hLab
  refine ws fun K135 hK135 => ?_
  refine x_v J (r_ltI rfl (J.ev rfl) (J.ev rfl)) rfl fun U J => ?_
  refine wn (hK135 _ _ ?_)
  refine wp_seq_k fun K136 hK136 => ?_
  refine c_if J rfl (fun hb137 => ?_) fun hb137 => ?_
  ·replace G := ift hb137 G
   refine wp_skip ?_
   refine hK136 _ _ ?_
   refine wp_seq_k fun K138 hK138 => ?_
   refine wp_block_k fun Kx139 hKx139 => ?_
   refine ws fun K140 hK140 => ?_
   obtain ⟨x141, h142, G⟩ := bnd G
   refine x_ia' uu90 sz2 (X.rdl 1 ha1 rfl) h142 J (fun U J => ?_) rfl
   obtain ⟨cs, hV, hc143⟩ := el (X.rdl 1 ha1 rfl) h142
   obtain rfl := hV
   refine x_ld' uu2 (hc143 0 _ rfl) J (fun U J => ?_) rfl
   refine x_m J rfl fun U J => ?_
   refine wn (hK140 _ _ ?_)
   refine wp_reg ?_
   refine x_m J rfl fun U J => ?_
   refine x_m J rfl fun U J => ?_
   obtain ⟨y144, h145, G⟩ := bnd G
   refine x_call' en28 J (F_column_Int (L := L) l133 x141 A130 n131 c132 h145 X) (fun v U w hR J => ?_) rfl
   obtain ⟨B146, m147, d148, rfl, X⟩ := hR
   refine x_m J rfl fun U J => ?_
   refine wpList_nil ?_
   refine hKx139 _ _ ?_
   refine hK138 _ _ ?_
   refine wp_reg ?_
   obtain ⟨x149, h150, G⟩ := ltt_ G
   refine x_v (v := .int .i64 x149) J (rv_i h150 (r_add rfl (J.ev rfl) (J.ev rfl))) rfl fun U J => ?_
   refine x_m J rfl fun U J => ?_
   refine wpList_nil ?_
   cases G
   exact ⟨_, N126_ _ rfl, B146, m147, d148, J.sub _ rfl, X⟩
  replace G := iff' hb137 G
  refine wp_exit ?_
  cases G
  exact hx126_1 l133 (T126_ _ rfl) A130 n131 c132 U w (J.sub _ rfl) X
 replace G := iff' hb119 G
 refine ws fun K151 hK151 => ?_
 refine x_v J (r_eqI rfl (J.ev rfl) (J.ev rfl)) rfl fun U J => ?_
 refine x_m J rfl fun U J => ?_
 refine wn (hK151 _ _ ?_)
 refine c_if J rfl (fun hb152 => ?_) fun hb152 => ?_
 ·replace G := ift hb152 G
  refine ws fun K153 hK153 => ?_
  refine x_m J rfl fun U J => ?_
  refine wn (hK153 _ _ ?_)
  refine ws fun K154 hK154 => ?_
  refine x_m J rfl fun U J => ?_
  refine x_len' uu90 (X.rdl 1 ha1 rfl).2.1 J (fun U J => ?_) rfl
  refine x_m J rfl fun U J => ?_
  refine wn (hK154 _ _ ?_)
  refine wp_block_k fun Kx155 hKx155 => ?_
  have hb3 : ∀ (l156 : (List Int)), column_As_b3 l156 = some y → ∀ (A157 : Option Addr) (n158 : Nat) (c159 : Nat) (U : Act) (w : World), FR 93 [] U [(5, .slice A157 n158 c159)] → SH r (own (kI .u8) 5 A157 n158 c159 l156 :: L) w → Kx155 U w := by
   intro l156 G A157 n158 c159 U w J X
   unfold column_As_b3 at G
   refine hKx155 _ _ ?_
   exact hb1 l156 G A157 n158 c159 U w (J.sub _ rfl) X
  obtain ⟨t160, hl160, G⟩ := bnd G
  have hx160_3 : ∀ (l161 : (List Int)), (l161) = t160 → ∀ (A162 : Option Addr) (n163 : Nat) (c160 : Nat) (U : Act) (w : World), FR 93 [] U [(5, .slice A162 n163 c160)] → SH r (own (kI .u8) 5 A162 n163 c160 l161 :: L) w → Kx155 U w := by
   intro l161 ht A162 n163 c160 U w J X
   subst ht
   replace G : column_As_x2_3 l161 = some y := G
   unfold column_As_x2_3 at G
   exact hb3 l161 G A162 n163 c160 U w (J.sub _ rfl) X
  refine wp_loop_fn hl160 (fun s U w => ∃ (A164 : Option Addr) (n165 : Nat) (c166 : Nat), FR 93 [] U [(5, .slice A164 n165 c166), (8, .int .i64 s.2.1), (34, .slice A1 n1 c1), (35, .int .i64 (a1.length : Int)), (36, .int .i64 s.2.2)] ∧ SH r (own (kI .u8) 5 A164 n165 c166 s.1 :: L) w) ⟨B107, m108, d109, J.sub _ rfl, X⟩ ?_
  intro N160 s160 o160 G N160_ T160_ U w hLab
  obtain ⟨l167, x168, x169⟩ := s160
  replace G : column_As_l2 a1 l167 x168 x169 = some o160 := G
  unfold column_As_l2 at G
  try dsimp only at hLab
  obtain ⟨A164, n165, c166, J, X⟩ := hLab
  refine ws fun K170 hK170 => ?_
  refine x_v J (r_ltI rfl (J.ev rfl) (J.ev rfl)) rfl fun U J => ?_
  refine wn (hK170 _ _ ?_)
  refine wp_seq_k fun K171 hK171 => ?_
  refine c_if J rfl (fun hb172 => ?_) fun hb172 => ?_
  ·replace G := ift hb172 G
   refine wp_skip ?_
   refine hK171 _ _ ?_
   refine wp_seq_k fun K173 hK173 => ?_
   refine wp_block_k fun Kx174 hKx174 => ?_
   refine ws fun K175 hK175 => ?_
   obtain ⟨x176, h177, G⟩ := bnd G
   refine x_ia' uu90 sz2 (X.rdl 1 ha1 rfl) h177 J (fun U J => ?_) rfl
   obtain ⟨cs, hV, hc178⟩ := el (X.rdl 1 ha1 rfl) h177
   obtain rfl := hV
   refine x_ld' uu2 (hc178 0 _ rfl) J (fun U J => ?_) rfl
   refine x_m J rfl fun U J => ?_
   refine wn (hK175 _ _ ?_)
   refine ws fun K179 hK179 => ?_
   refine x_m J rfl fun U J => ?_
   refine x_m J rfl fun U J => ?_
   refine x_m J rfl fun U J => ?_
   obtain ⟨x180, h181, G⟩ := ltt_ G
   refine x_v (v := .int .i64 x180) J (rv_i h181 (r_sub rfl (J.ev rfl) (J.ev rfl))) rfl fun U J => ?_
   obtain ⟨y182, h183, G⟩ := bnd G
   refine x_call' en28 J (F_column_Int (L := L) l167 x180 A164 n165 c166 h183 X) (fun v U w hR J => ?_) rfl
   obtain ⟨B184, m185, d186, rfl, X⟩ := hR
   refine x_m J rfl fun U J => ?_
   refine wn (hK179 _ _ ?_)
   refine wp_reg ?_
   refine x_m J rfl fun U J => ?_
   refine x_m J rfl fun U J => ?_
   refine wpList_nil ?_
   refine hKx174 _ _ ?_
   refine hK173 _ _ ?_
   refine wp_reg ?_
   obtain ⟨x187, h188, G⟩ := ltt_ G
   refine x_v (v := .int .i64 x187) J (rv_i h188 (r_add rfl (J.ev rfl) (J.ev rfl))) rfl fun U J => ?_
   refine x_m J rfl fun U J => ?_
   refine wpList_nil ?_
   cases G
   exact ⟨_, N160_ _ rfl, B184, m185, d186, J.sub _ rfl, X⟩
  replace G := iff' hb172 G
  refine wp_exit ?_
  cases G
  exact hx160_3 l167 (T160_ _ rfl) A164 n165 c166 U w (J.sub _ rfl) X
 replace G := iff' hb152 G
 refine ws fun K189 hK189 => ?_
 refine x_v J (r_eqI rfl (J.ev rfl) (J.ev rfl)) rfl fun U J => ?_
 refine x_m J rfl fun U J => ?_
 refine wn (hK189 _ _ ?_)
 refine c_if J rfl (fun hb190 => ?_) fun hb190 => ?_
 ·replace G := ift hb190 G
  refine ws fun K191 hK191 => ?_
  refine x_m J rfl fun U J => ?_
  refine wn (hK191 _ _ ?_)
  refine wp_block_k fun Kx192 hKx192 => ?_
  have hb4 : ∀ (l193 : (List Int)), column_As_b4 l193 = some y → ∀ (A194 : Option Addr) (n195 : Nat) (c196 : Nat) (U : Act) (w : World), FR 93 [] U [(5, .slice A194 n195 c196)] → SH r (own (kI .u8) 5 A194 n195 c196 l193 :: L) w → Kx192 U w := by
   intro l193 G A194 n195 c196 U w J X
   unfold column_As_b4 at G
   refine hKx192 _ _ ?_
   exact hb1 l193 G A194 n195 c196 U w (J.sub _ rfl) X
  obtain ⟨t197, hl197, G⟩ := bnd G
  have hx197_5 : ∀ (l198 : (List Int)), (l198) = t197 → ∀ (A199 : Option Addr) (n200 : Nat) (c197 : Nat) (U : Act) (w : World), FR 93 [] U [(5, .slice A199 n200 c197)] → SH r (own (kI .u8) 5 A199 n200 c197 l198 :: L) w → Kx192 U w := by
   intro l198 ht A199 n200 c197 U w J X
   subst ht
   replace G : column_As_x3_5 l198 = some y := G
   unfold column_As_x3_5 at G
   exact hb4 l198 G A199 n200 c197 U w (J.sub _ rfl) X
  refine wp_loop_fn hl197 (fun s U w => ∃ (A201 : Option Addr) (n202 : Nat) (c203 : Nat), FR 93 [] U [(1, .slice A1 n1 c1), (5, .slice A201 n202 c203), (11, .int .i64 s.2)] ∧ SH r (own (kI .u8) 5 A201 n202 c203 s.1 :: L) w) ⟨B107, m108, d109, J.sub _ rfl, X⟩ ?_
  intro N197 s197 o197 G N197_ T197_ U w hLab
  obtain ⟨l204, x205⟩ := s197
  replace G : column_As_l3 a1 l204 x205 = some o197 := G
  unfold column_As_l3 at G
  try dsimp only at hLab
  obtain ⟨A201, n202, c203, J, X⟩ := hLab
  refine wp_seq_k fun K206 hK206 => ?_
  refine ws fun K207 hK207 => ?_
  refine x_m J rfl fun U J => ?_
  refine x_m J rfl fun U J => ?_
  refine x_len' uu90 (X.rdl 1 ha1 rfl).2.1 J (fun U J => ?_) rfl
  refine x_v J (r_ltI rfl (J.ev rfl) (J.ev rfl)) rfl fun U J => ?_
  refine wn (hK207 _ _ ?_)
  refine c_if J rfl (fun hb208 => ?_) fun hb208 => ?_
  ·replace G := ift hb208 G
   refine wp_skip ?_
   refine hK206 _ _ ?_
   refine wp_block_k fun Kx209 hKx209 => ?_
   refine ws fun K210 hK210 => ?_
   refine x_m J rfl fun U J => ?_
   refine wn (hK210 _ _ ?_)
   refine wp_seq_k fun K211 hK211 => ?_
   refine wp_block_k fun Kx212 hKx212 => ?_
   have hb5 : ∀ (x213 : Int), column_As_b5 a1 l204 x205 x213 = some o197 → ∀ (U : Act) (w : World), FR 93 [] U [(1, .slice A1 n1 c1), (5, .slice A201 n202 c203), (11, .int .i64 x205), (12, .int .i64 x213)] → SH r (own (kI .u8) 5 A201 n202 c203 l204 :: L) w → Kx212 U w := by
    intro x213 G U w J X
    unfold column_As_b5 at G
    refine hKx212 _ _ ?_
    refine hK211 _ _ ?_
    refine ws fun K214 hK214 => ?_
    refine x_m J rfl fun U J => ?_
    refine x_m J rfl fun U J => ?_
    refine x_m J rfl fun U J => ?_
    obtain ⟨x215, h216, G⟩ := bnd G
    refine x_ia' uu90 sz2 (X.rdl 1 ha1 rfl) h216 J (fun U J => ?_) rfl
    obtain ⟨cs, hV, hc217⟩ := el (X.rdl 1 ha1 rfl) h216
    obtain rfl := hV
    refine x_ld' uu2 (hc217 0 _ rfl) J (fun U J => ?_) rfl
    obtain ⟨y218, h219, G⟩ := bnd G
    refine x_call' en28 J (F_column_Int (L := L) l204 x215 A201 n202 c203 h219 X) (fun v U w hR J => ?_) rfl
    obtain ⟨B220, m221, d222, rfl, X⟩ := hR
    refine x_m J rfl fun U J => ?_
    obtain ⟨x223, h224, G⟩ := ltt_ G
    refine x_v (v := .int .i64 x223) J (rv_i h224 (r_sub rfl (J.ev rfl) (J.ev rfl))) rfl fun U J => ?_
    obtain ⟨x225, h226, G⟩ := ltt_ G
    refine x_v (v := .int .u64 x225) J (rv_i h226 (r_convI uu3 uu31 rfl (J.ev rfl))) rfl fun U J => ?_
    obtain ⟨y227, h228, G⟩ := bnd G
    refine x_call' en48 J (F_column_Uint (L := L) y218 x225 B220 m221 d222 h228 X) (fun v U w hR J => ?_) rfl
    obtain ⟨B229, m230, d231, rfl, X⟩ := hR
    refine x_m J rfl fun U J => ?_
    refine wn (hK214 _ _ ?_)
    refine wp_reg ?_
    refine x_m J rfl fun U J => ?_
    refine x_m J rfl fun U J => ?_
    obtain ⟨x232, h233, G⟩ := ltt_ G
    refine x_v (v := .int .i64 x232) J (rv_i h233 (r_add rfl (J.ev rfl) (J.ev rfl))) rfl fun U J => ?_
    refine x_m J rfl fun U J => ?_
    refine wpList_nil ?_
    refine hKx209 _ _ ?_
    cases G
    exact ⟨_, N197_ _ rfl, B229, m230, d231, J.sub _ rfl, X⟩
   obtain ⟨t234, hl234, G⟩ := bnd G
   have hx234_7 : ∀ (x234 : Int), (x234) = t234 → ∀ (U : Act) (w : World), FR 93 [] U [(1, .slice A1 n1 c1), (5, .slice A201 n202 c203), (11, .int .i64 x205), (12, .int .i64 x234)] → SH r (own (kI .u8) 5 A201 n202 c203 l204 :: L) w → Kx212 U w := by
    intro x234 ht U w J X
    subst ht
    replace G : column_As_x4_7 a1 l204 x205 x234 = some o197 := G
    unfold column_As_x4_7 at G
    exact hb5 x234 G U w (J.sub _ rfl) X
   refine wp_loop_fn hl234 (fun s U w => FR 93 [] U [(1, .slice A1 n1 c1), (5, .slice A201 n202 c203), (11, .int .i64 x205), (12, .int .i64 s)] ∧ SH r (own (kI .u8) 5 A201 n202 c203 l204 :: L) w) ⟨J.sub _ rfl, X⟩ ?_
   intro N234 s234 o234 G N234_ T234_ U w hLab
   obtain ⟨x235, rfl⟩ : ∃ q, q = s234 := ⟨_, rfl⟩
   replace G : column_As_l4 a1 x205 x235 = some o234 := G
   unfold column_As_l4 at G
   try dsimp only at hLab
   obtain ⟨J, X⟩ := hLab
   refine wp_seq_k fun K236 hK236 => ?_
   refine wp_seq_k fun K237 hK237 => ?_
   have hj1 : ∀ (b238 : Bool), column_As_j1 x235 b238 = some o234 → ∀ (U : Act) (w : World), FR 93 [] U [(1, .slice A1 n1 c1), (5, .slice A201 n202 c203), (11, .int .i64 x205), (12, .int .i64 x235), (71, .bool b238)] → SH r (own (kI .u8) 5 A201 n202 c203 l204 :: L) w → K237 U w := by
    intro b238 G U w J X
    unfold column_As_j1 at G
    refine hK237 _ _ ?_
    refine c_if J rfl (fun hb239 => ?_) fun hb239 => ?_
    ·replace G := ift hb239 G
     refine wp_skip ?_
     refine hK236 _ _ ?_
     refine wp_block_k fun Kx240 hKx240 => ?_
     refine wp_reg ?_
     refine x_m J rfl fun U J => ?_
     obtain ⟨x241, h242, G⟩ := ltt_ G
     refine x_v (v := .int .i64 x241) J (rv_i h242 (r_add rfl (J.ev rfl) (J.ev rfl))) rfl fun U J => ?_
     refine x_m J rfl fun U J => ?_
     refine wpList_nil ?_
     refine hKx240 _ _ ?_
     cases G
     exact ⟨_, N234_ _ rfl, J.sub _ rfl, X⟩
    replace G := iff' hb239 G
    refine wp_exit ?_
    cases G
    exact hx234_7 x235 (T234_ _ rfl) U w (J.sub _ rfl) X
   refine wp_draw [0, 0, 3, 0, 8, 31, 63, 127, 127, 127, 895, 2047, 4095, 127, 127, 24703, 57471, 131071, 262143] [] rfl J X (by kernel_rfl) (by kernel_rfl) (by kernel_rfl) (by kernel_rfl) fun w X => ?_
   obtain ⟨x243, h244, G⟩ := ltt_ G
   refine bcase (b := decide (x243 < (a1.length : Int))) (fun hb245 => ?_) fun hb245 => ?_
   ·replace G := ift hb245 G
    obtain ⟨x246, h247, G⟩ := bnd G
    obtain ⟨cs, hV, hc248⟩ := el (X.rdl 1 ha1 rfl) h247
    obtain rfl := hV
    obtain ⟨x249, h250, G⟩ := bnd G
    obtain ⟨cs, hV, hc251⟩ := el (X.rdl 1 ha1 rfl) h250
    obtain rfl := hV
    refine ⟨[(0, .int .i64 x205), (1, .int .i64 x235), (2, .int .i64 x243), (3, .slice A1 n1 c1), (4, .int .i64 (a1.length : Int)), (5, .bool (decide (x243 < (a1.length : Int)))), (6, .bool (decide (x243 < (a1.length : Int)))), (7, .slice A1 n1 c1), (8, .int .i64 x205), (9, .int .i64 x235), (10, .int .i64 x243), (11, .pointer (some (ea A1 (x243.toNat * 1)))), (12, .int .i64 x246), (13, .slice A1 n1 c1), (14, .int .i64 x205), (15, .pointer (some (ea A1 (x205.toNat * 1)))), (16, .int .i64 x249), (17, .bool (x246 == x249)), (18, .bool (x246 == x249))], ?_⟩
    refine dEnd [0, 1, 2, 3, 4, 5, 6, 7, 8, 9, 10, 11, 12, 13, 14, 15, 16, 17, 18] (by kernel_rfl) ⟨pm rfl, pm rfl, pt [(53, .int .i64 x205), (54, .int .i64 x235)] rfl (fun U J => (rv_i h244 (r_add rfl (J.ev rfl) (J.ev rfl)) : RunV _ _ _ _ (.int .i64 x243))), pm rfl, pt [(56, .slice A1 n1 c1)] rfl (fun U J => y_len uu90 (X.rdl 1 ha1 rfl).2.1 J rfl rfl), pt [(55, .int .i64 x243), (57, .int .i64 (a1.length : Int))] rfl (fun U J => r_ltI rfl (J.ev rfl) (J.ev rfl)), pm rfl, puOn rfl rfl rfl rfl [(1, .slice A1 n1 c1), (59, .bool (decide (x243 < (a1.length : Int))))] rfl hb245 (fun U J => y_move J rfl rfl) rfl, puOn rfl rfl rfl rfl [(11, .int .i64 x205), (59, .bool (decide (x243 < (a1.length : Int))))] rfl hb245 (fun U J => y_move J rfl rfl) rfl, puOn rfl rfl rfl rfl [(12, .int .i64 x235), (59, .bool (decide (x243 < (a1.length : Int))))] rfl hb245 (fun U J => y_move J rfl rfl) rfl, puOn rfl rfl rfl rfl [(59, .bool (decide (x243 < (a1.length : Int)))), (61, .int .i64 x205), (62, .int .i64 x235)] rfl hb245 (fun U J => (rv_i h244 (r_add rfl (J.ev rfl) (J.ev rfl)) : RunV _ _ _ _ (.int .i64 x243))) rfl, puOn rfl rfl rfl rfl [(59, .bool (decide (x243 < (a1.length : Int)))), (60, .slice A1 n1 c1), (63, .int .i64 x243)] rfl hb245 (fun U J => y_ia uu90 sz2 (X.rdl 1 ha1 rfl) h247 J rfl rfl rfl) rfl, puOn rfl rfl rfl rfl [(59, .bool (decide (x243 < (a1.length : Int)))), (64, .pointer (some (ea A1 (x243.toNat * 1))))] rfl hb245 (fun U J => y_ld uu2 (hc248 0 _ rfl) J rfl rfl rfl) rfl, puOn rfl rfl rfl rfl [(1, .slice A1 n1 c1), (59, .bool (decide (x243 < (a1.length : Int))))] rfl hb245 (fun U J => y_move J rfl rfl) rfl, puOn rfl rfl rfl rfl [(11, .int .i64 x205), (59, .bool (decide (x243 < (a1.length : Int))))] rfl hb245 (fun U J => y_move J rfl rfl) rfl, puOn rfl rfl rfl rfl [(59, .bool (decide (x243 < (a1.length : Int)))), (66, .slice A1 n1 c1), (67, .int .i64 x205)] rfl hb245 (fun U J => y_ia uu90 sz2 (X.rdl 1 ha1 rfl) h250 J rfl rfl rfl) rfl, puOn rfl rfl rfl rfl [(59, .bool (decide (x243 < (a1.length : Int)))), (68, .pointer (some (ea A1 (x205.toNat * 1))))] rfl hb245 (fun U J => y_ld uu2 (hc251 0 _ rfl) J rfl rfl rfl) rfl, puOn rfl rfl rfl rfl [(59, .bool (decide (x243 < (a1.length : Int)))), (65, .int .i64 x246), (69, .int .i64 x249)] rfl hb245 (fun U J => r_eqI rfl (J.ev rfl) (J.ev rfl)) rfl, pt [(59, .bool (decide (x243 < (a1.length : Int)))), (70, .bool (x246 == x249))] rfl (fun U J => y_pickt hb245 J rfl rfl rfl), trivial⟩ ⟨by kernel_rfl, by kernel_rfl⟩ [(1, .slice A1 n1 c1), (5, .slice A201 n202 c203), (11, .int .i64 x205), (12, .int .i64 x235), (60, .slice A1 n1 c1), (61, .int .i64 x205), (62, .int .i64 x235), (63, .int .i64 x243), (65, .int .i64 x246), (66, .slice A1 n1 c1), (67, .int .i64 x205), (69, .int .i64 x249), (70, .bool (x246 == x249)), (71, .bool (x246 == x249))] rfl (fun U J => ?_)
    exact hj1 (x246 == x249) G U w (J.sub _ rfl) X
   replace G := iff' hb245 G
   refine ⟨[(0, .int .i64 x205), (1, .int .i64 x235), (2, .int .i64 x243), (3, .slice A1 n1 c1), (4, .int .i64 (a1.length : Int)), (5, .bool (decide (x243 < (a1.length : Int)))), (6, .bool (decide (x243 < (a1.length : Int)))), (7, undef), (8, undef), (9, undef), (10, undef), (11, undef), (12, undef), (13, undef), (14, undef), (15, undef), (16, undef), (17, undef), (18, .bool false)], ?_⟩
   refine dEnd [0, 1, 2, 3, 4, 5, 6, 7, 8, 9, 10, 11, 12, 13, 14, 15, 16, 17, 18] (by kernel_rfl) ⟨pm rfl, pm rfl, pt [(53, .int .i64 x205), (54, .int .i64 x235)] rfl (fun U J => (rv_i h244 (r_add rfl (J.ev rfl) (J.ev rfl)) : RunV _ _ _ _ (.int .i64 x243))), pm rfl, pt [(56, .slice A1 n1 c1)] rfl (fun U J => y_len uu90 (X.rdl 1 ha1 rfl).2.1 J rfl rfl), pt [(55, .int .i64 x243), (57, .int .i64 (a1.length : Int))] rfl (fun U J => r_ltI rfl (J.ev rfl) (J.ev rfl)), pm rfl, puOff rfl rfl rfl rfl [(1, .slice A1 n1 c1), (59, .bool (decide (x243 < (a1.length : Int))))] rfl hb245 rfl, puOff rfl rfl rfl rfl [(11, .int .i64 x205), (59, .bool (decide (x243 < (a1.length : Int))))] rfl hb245 rfl, puOff rfl rfl rfl rfl [(12, .int .i64 x235), (59, .bool (decide (x243 < (a1.length : Int))))] rfl hb245 rfl, puOff rfl rfl rfl rfl [(59, .bool (decide (x243 < (a1.length : Int)))), (61, undef), (62, undef)] rfl hb245 rfl, puOff rfl rfl rfl rfl [(59, .bool (decide (x243 < (a1.length : Int)))), (60, undef), (63, undef)] rfl hb245 rfl, puOff rfl rfl rfl rfl [(59, .bool (decide (x243 < (a1.length : Int)))), (64, undef)] rfl hb245 rfl, puOff rfl rfl rfl rfl [(1, .slice A1 n1 c1), (59, .bool (decide (x243 < (a1.length : Int))))] rfl hb245 rfl, puOff rfl rfl rfl rfl [(11, .int .i64 x205), (59, .bool (decide (x243 < (a1.length : Int))))] rfl hb245 rfl, puOff rfl rfl rfl rfl [(59, .bool (decide (x243 < (a1.length : Int)))), (66, undef), (67, undef)] rfl hb245 rfl, puOff rfl rfl rfl rfl [(59, .bool (decide (x243 < (a1.length : Int)))), (68, undef)] rfl hb245 rfl, puOff rfl rfl rfl rfl [(59, .bool (decide (x243 < (a1.length : Int)))), (65, undef), (69, undef)] rfl hb245 rfl, pt [(59, .bool (decide (x243 < (a1.length : Int)))), (70, undef)] rfl (fun U J => y_pickf hb245 J rfl rfl rfl), trivial⟩ ⟨by kernel_rfl, by kernel_rfl⟩ [(1, .slice A1 n1 c1), (5, .slice A201 n202 c203), (11, .int .i64 x205), (12, .int .i64 x235), (71, .bool false)] rfl (fun U J => ?_)
   exact hj1 false G U w (J.sub _ rfl) X
  replace G := iff' hb208 G
  refine wp_exit ?_
  cases G
  exact hx197_5 l204 (T197_ _ rfl) A201 n202 c203 U w (J.sub _ rfl) X
 replace G := iff' hb190 G
 refine ws fun K252 hK252 => ?_
 refine x_v J (r_eqI rfl (J.ev rfl) (J.ev rfl)) rfl fun U J => ?_
 refine x_m J rfl fun U J => ?_
 refine wn (hK252 _ _ ?_)
 refine c_if J rfl (fun hb253 => ?_) fun hb253 => ?_
 ·replace G := ift hb253 G
  refine wp_reg ?_
  refine x_m J rfl fun U J => ?_
  refine x_m J rfl fun U J => ?_
  obtain ⟨y254, h255, G⟩ := bnd G
  refine x_call' en83 J (F_column_pack (L := L) y105 a1 B107 m108 d109 A1 n1 c1 h255 (RdL.sfx 0 rfl ha1) X) (fun v U w hR J => ?_) rfl
  obtain ⟨B256, m257, d258, rfl, X⟩ := hR
  refine x_m J rfl fun U J => ?_
  refine wpList_nil ?_
  exact hb1 y254 G B256 m257 d258 U w (J.sub _ rfl) X
 replace G := iff' hb253 G
 refine wp_skip ?_
 exact hb1 y105 G B107 m108 d109 U w (J.sub _ rfl) X
theorem F_column_Ints {r : World} {L : List HP} {w : World} (a0 : (List Int)) (A0 : Option Addr) (n0 : Nat) (c0 : Nat) {y : ((List Int))} (G : column_Ints a0 = some y) (ha0 : RdL L (kI .i64) A0 n0 c0 a0) (X : SH r (L) w) :
  Ret Tryd.prog 45 #[.slice A0 n0 c0] w fun v w' => ∃ (B0 : Option Addr) (m0 : Nat) (d0 : Nat), v = .slice B0 m0 d0 ∧ SH r (own (kI .u8) 5 B0 m0 d0 y :: L) w' := by
 refine enter Tryd.func45 rfl Tryd.ntmps45 [(0, .slice A0 n0 c0)] rfl (by simp) ?_
 intro U J Qf hQ hQn
 unfold column_Ints at G
 refine ws fun K100 hK100 => ?_
 refine x_m J rfl fun U J => ?_
 refine wn (hK100 _ _ ?_)
 refine ws fun K101 hK101 => ?_
 refine x_m J rfl fun U J => ?_
 obtain ⟨y102, h103, G⟩ := bnd G
 refine x_call' en68 J (F_column_As (L := L) 0 a0 A0 n0 c0 h103 (RdL.sfx 0 rfl ha0) X) (fun v U w hR J => ?_) rfl
 obtain ⟨B104, m105, d106, rfl, X⟩ := hR
 refine x_m J rfl fun U J => ?_
 refine wn (hK101 _ _ ?_)
 refine wp_seq_k fun K107 hK107 => ?_
 refine ws fun K108 hK108 => ?_
 refine x_m J rfl fun U J => ?_
 refine wn (hK108 _ _ ?_)
 refine wp_block_k fun Kx109 hKx109 => ?_
 have hb1 : ∀ (l110 : (List Int)), column_Ints_b1 l110 = some y → ∀ (A111 : Option Addr) (n112 : Nat) (c113 : Nat) (U : Act) (w : World), FR 22 [] U [(3, .slice A111 n112 c113)] → SH r (own (kI .u8) 5 A111 n112 c113 l110 :: L) w → Kx109 U w := by
  intro l110 G A111 n112 c113 U w J X
  unfold column_Ints_b1 at G
  refine hKx109 _ _ ?_
  refine hK107 _ _ ?_
  refine ws fun K114 hK114 => ?_
  refine x_m J rfl fun U J => ?_
  refine x_m J rfl fun U J => ?_
  refine wn (hK114 _ _ ?_)
  refine wp_ret ?_
  cases G
  refine hQ _ _ ?_
  refine lv Tryd.results45 J rfl ?_
  exact ⟨A111, n112, c113, rfl, X⟩
 obtain ⟨t115, hl115, G⟩ := bnd G
 have hx115_0 : ∀ (l116 : (List Int)), (l116) = t115 → ∀ (A117 : Option Addr) (n118 : Nat) (c115 : Nat) (U : Act) (w : World), FR 22 [] U [(3, .slice A117 n118 c115)] → SH r (own (kI .u8) 5 A117 n118 c115 l116 :: L) w → Kx109 U w := by
  intro l116 ht A117 n118 c115 U w J X
  subst ht
  replace G : column_Ints_x1_0 l116 = some y := G
  unfold column_Ints_x1_0 at G
  exact hb1 l116 G A117 n118 c115 U w (J.sub _ rfl) X
 refine wp_loop_fn hl115 (fun s U w => ∃ (A119 : Option Addr) (n120 : Nat) (c121 : Nat), FR 22 [] U [(0, .slice A0 n0 c0), (3, .slice A119 n120 c121), (4, .int .u8 s.2)] ∧ SH r (own (kI .u8) 5 A119 n120 c121 s.1 :: L) w) ⟨B104, m105, d106, J.sub _ rfl, X⟩ ?_
 intro N115 s115 o115 G N115_ T115_ U w hLab
 obtain ⟨l122, x123⟩ := s115
 replace G : column_Ints_l1 a0 l122 x123 = some o115 := G
 unfold column_Ints_l1 at G
 try dsimp only at hLab
 obtain ⟨A119, n120, c121, J, X⟩ := hLab
 refine wp_seq_k fun K124 hK124 => ?_
 refine ws fun K125 hK125 => ?_
 refine x_m J rfl fun U J => ?_
 refine x_v J (r_leI rfl (J.ev rfl) (J.ev rfl)) rfl fun U J => ?_
 refine wn (hK125 _ _ ?_)
 refine c_if J rfl (fun hb126 => ?_) fun hb126 => ?_
 ·replace G := ift hb126 G
  refine wp_skip ?_
  refine hK124 _ _ ?_
  refine wp_seq_k fun K127 hK127 => ?_
  refine wp_block_k fun Kx128 hKx128 => ?_
  have hb2 : ∀ (l129 : (List Int)), column_Ints_b2 x123 l129 = some o115 → ∀ (A130 : Option Addr) (n131 : Nat) (c132 : Nat) (U : Act) (w : World), FR 22 [] U [(0, .slice A0 n0 c0), (3, .slice A130 n131 c132), (4, .int .u8 x123)] → SH r (own (kI .u8) 5 A130 n131 c132 l129 :: L) w → Kx128 U w := by
   intro l129 G A130 n131 c132 U w J X
   unfold column_Ints_b2 at G
   refine hKx128 _ _ ?_
   refine hK127 _ _ ?_
   refine wp_reg ?_
   refine x_m J rfl fun U J => ?_
   obtain ⟨x133, h134, G⟩ := ltt_ G
   refine x_v (v := .int .u8 x133) J (rv_i h134 (r_add rfl (J.ev rfl) (J.ev rfl))) rfl fun U J => ?_
   refine x_m J rfl fun U J => ?_
   refine wpList_nil ?_
   cases G
   exact ⟨_, N115_ _ rfl, A130, n131, c132, J.sub _ rfl, X⟩
  refine ws fun K135 hK135 => ?_
  refine x_m J rfl fun U J => ?_
  refine x_m J rfl fun U J => ?_
  obtain ⟨y136, h137, G⟩ := bnd G
  refine x_call' en68 J (F_column_As (L := own (kI .u8) 5 A119 n120 c121 l122 :: L) x123 a0 A0 n0 c0 h137 (RdL.sfx 1 rfl ha0) X) (fun v U w hR J => ?_) rfl
  obtain ⟨B138, m139, d140, rfl, X⟩ := hR
  refine x_m J rfl fun U J => ?_
  refine wn (hK135 _ _ ?_)
  refine ws fun K141 hK141 => ?_
  refine x_m J rfl fun U J => ?_
  refine x_len' uu24 (X.rd 0 rfl).2.1 J (fun U J => ?_) rfl
  refine x_m J rfl fun U J => ?_
  refine x_len' uu24 (X.rd 1 rfl).2.1 J (fun U J => ?_) rfl
  refine x_v J (r_ltI rfl (J.ev rfl) (J.ev rfl)) rfl fun U J => ?_
  refine wn (hK141 _ _ ?_)
  refine c_if J rfl (fun hb142 => ?_) fun hb142 => ?_
  ·replace G := ift hb142 G
   refine wp_reg ?_
   refine x_m J rfl fun U J => ?_
   refine x_m J rfl fun U J => ?_
   refine wpList_nil ?_
   replace X := X.drop 1
   exact hb2 y136 G B138 m139 d140 U w (J.sub _ rfl) X
  replace G := iff' hb142 G
  refine wp_skip ?_
  replace X := X.drop 0
  exact hb2 l122 G A119 n120 c121 U w (J.sub _ rfl) X
 replace G := iff' hb126 G
 refine wp_exit ?_
 cases G
 exact hx115_0 l122 (T115_ _ rfl) A119 n120 c121 U w (J.sub _ rfl) X
theorem catch_pan {r : World} {L : List HP} {g : Nat} {b : Bool} {w : World} (hS : SH r (blk g 4 [.bool b] :: L) w) :
    CallsD Tryd.prog 57 #[.pointer (some ⟨g, 0, none⟩)] (.panicking badC) w fun e u' w' => e = .returned (.tuple #[]) ∧ u' = .panicking [{ v := .iface 102 (.agg #[]), recovered := true }] ∧ SH r (blk g 4 [.bool false] :: L) w' := by
  refine callsD_of_wpS Tryd.func57 rfl fun c₀ cs hu => ?_
  apply wpS_seq
  apply wpS_region
  simp only [List.size_toArray, List.length_cons, List.length_nil, Nat.zero_add]
  rw [show List.range (1 + 1) = [0, 1] from rfl]
  simp [wpOpsS, go_sem, recoverD, hu, badC, Tryd.ntmps57, Exit.thenS]
  generalize hac : ({ tmps := _, defers := _ } : Act) = ac
  have hA : FR 15 [] ac [(0, .pointer (some ⟨g, 0, none⟩)), (1, .iface 102 (.agg #[]))] := by
    subst hac
    refine ⟨by simp, rfl, fun t v hv => ?_⟩
    simp only [lk] at hv
    by_cases e0 : t = 0
    · subst e0; cases hv; rfl
    by_cases e1 : t = 1
    · subst e1; cases hv; rfl
    · exfalso
      rw [show Nat.beq 0 t = false by cases h : Nat.beq 0 t; rfl; exact absurd (Nat.eq_of_beq_eq_true h).symm e0, show Nat.beq 1 t = false by cases h : Nat.beq 1 t; rfl; exact absurd (Nat.eq_of_beq_eq_true h).symm e1] at hv
      cases hv
  clear hac
  refine wpS_of_wp ?_
  have fin : ∀ (a : Act) (w : World), FR 15 [] a [] → SH r (blk g 4 [.bool false] :: L) w → bodyPostS Tryd.prog Tryd.f57 c₀ cs (fun e u' w' => e = .returned (.tuple #[]) ∧ u' = .panicking [{ v := .iface 102 (.agg #[]), recovered := true }] ∧ SH r (blk g 4 [.bool false] :: L) w') .normal a ({ c₀ with mode := .panicking [{ v := .iface 102 (.agg #[]), recovered := true }] } :: cs) w := by
    intro a w hA hS
    exact ⟨hA.defers, _, rfl, _, results_none Tryd.results57 _ _ _, rfl, rfl, hS⟩
  refine wp_seq_k fun K1 h1 => ?_
  refine wp_reg ?_
  refine x_move hA (fun ac hA => ?_)
  refine x_val (v := .bool true) hA (r_neIfNil Tryd.underlying20 rfl (hA.ev rfl) (hA.ev rfl)) (fun ac hA => ?_)
  refine wpList_nil ?_
  refine h1 _ _ ?_
  refine c_t (b := true) rfl hA ?_
  refine wp_seq_k fun K4 h4 => ?_
  refine wp_seq_k fun K2 h2 => ?_
  refine wp_reg ?_
  refine x_move hA (fun ac hA => ?_)
  refine x_val (v := .tuple #[.agg #[], .bool true]) hA (r_typeAssert Tryd.underlying102 rfl rfl (hA.ev rfl)) (fun ac hA => ?_)
  refine x_move hA (fun ac hA => ?_)
  refine x_val hA (r_extract rfl (hA.ev rfl) rfl) (fun ac hA => ?_)
  refine x_val hA (r_extract rfl (hA.ev rfl) rfl) (fun ac hA => ?_)
  refine x_alloc (cs := []) zr102 hA hS (fun g2 ac w hS hA => ?_)
  refine x_stb (vs := []) 0 sz102 hA hS rfl (fun ac w hS hA => ?_)
  refine x_assign hA (fun ac hA => ?_)
  refine wpList_nil ?_
  refine h2 _ _ ?_
  refine wp_seq_k fun K3 h3 => ?_
  refine wp_reg ?_
  refine x_move hA (fun ac hA => ?_)
  refine x_val hA (r_not rfl (hA.ev rfl)) (fun ac hA => ?_)
  refine wpList_nil ?_
  refine h3 _ _ ?_
  refine c_f (b := !true) rfl hA ?_
  refine wp_skip ?_
  refine h4 _ _ ?_
  refine wp_reg ?_
  refine x_stb (vs := [.bool false]) 1 sz4 hA hS rfl (fun ac w hS hA => ?_)
  refine wpList_nil ?_
  have hS' := hS.pk 1
  exact fin _ _ (hA.sub _ rfl) (hS'.tail)
theorem catch_idle {g : Nat} {w : World} :
    CallsD Tryd.prog 57 #[.pointer (some ⟨g, 0, none⟩)] .returning w fun e u' w' => e = .returned (.tuple #[]) ∧ u' = .returning ∧ w' = w := by
  refine callsD_of_wpS Tryd.func57 rfl fun c₀ cs hu => ?_
  apply wpS_seq
  apply wpS_region
  simp only [List.size_toArray, List.length_cons, List.length_nil, Nat.zero_add]
  rw [show List.range (1 + 1) = [0, 1] from rfl]
  simp [wpOpsS, go_sem, recoverD, hu, Tryd.ntmps57, Exit.thenS]
  generalize hac : ({ tmps := _, defers := _ } : Act) = ac
  have hA : FR 15 [] ac [(0, .pointer (some ⟨g, 0, none⟩)), (1, .nilIface)] := by
    subst hac
    refine ⟨by simp, rfl, fun t v hv => ?_⟩
    simp only [lk] at hv
    by_cases e0 : t = 0
    · subst e0; cases hv; rfl
    by_cases e1 : t = 1
    · subst e1; cases hv; rfl
    · exfalso
      rw [show Nat.beq 0 t = false by cases h : Nat.beq 0 t; rfl; exact absurd (Nat.eq_of_beq_eq_true h).symm e0, show Nat.beq 1 t = false by cases h : Nat.beq 1 t; rfl; exact absurd (Nat.eq_of_beq_eq_true h).symm e1] at hv
      cases hv
  clear hac
  refine wpS_of_wp ?_
  refine wp_seq_k fun K1 h1 => ?_
  refine wp_reg ?_
  refine x_move hA (fun ac hA => ?_)
  refine x_val (v := .bool false) hA (r_neNilIf Tryd.underlying20 rfl (hA.ev rfl)) (fun ac hA => ?_)
  refine wpList_nil ?_
  refine h1 _ _ ?_
  refine c_f (b := false) rfl hA ?_
  refine wp_skip ?_
  refine ⟨hA.defers, c₀.mode, rfl, _, results_none Tryd.results57 _ _ _, rfl, hu, rfl⟩
theorem results_bool {r : World} {L : List HP} {w : World} {g : Nat} {b : Bool} {a : Act} {n : Nat} {D : List Deferred} {F : List (Nat × Value)} (hA : FR n D a F) (h1 : lk F 4 = some (.pointer (some ⟨g, 0, none⟩))) (hS : SH r (blk g 4 [.bool b] :: L) w) :
    (results Tryd.f39 a.tmps).run Tryd.prog w = .ok (.bool b) w := by
  have e1 : a.tmps.getD 4 undef = .pointer (some ⟨g, 0, none⟩) := hA.ev (x := .tmp 4) h1
  have e1' : a.tmps[4]?.getD undef = .pointer (some ⟨g, 0, none⟩) := by rw [← Array.getD_eq_getD_getElem?]; exact e1
  have hc := hS.cell 0 rfl 0 (.bool b) rfl
  have hagg : (isAgg 4).run Tryd.prog w = .ok false w := by rw [run_isAgg_flat Tryd.underlying4]; rfl
  have hld : (loadVar 4 ⟨g, 0, none⟩).run Tryd.prog w = .ok (.bool b) w := by simp [loadVar, hagg, hc]
  simp [results, Tryd.results39, e1', asAddr, hld]
section
variable {r : World} {L : List HP} {w : World} {A : Option Addr} {n c f : Nat} {fs caps : Array Value}
theorem try_walk {R : Value → World → Prop} (hf : EN Tryd.prog f) (hS : SH r L w)
    (hret : ∀ g g4 w1, SH r (blk g 106 [.slice A n c] :: blk g4 4 [.bool false] :: L) w1 →
      (Ret Tryd.prog f (fs ++ #[.pointer (some ⟨g, 0, none⟩)] ++ caps) w1 fun v w2 => ∃ L1 A' n' c', SH r (blk g 106 [.slice A' n' c'] :: blk g4 4 [.bool false] :: L1) w2 ∧ ∀ w3, SH r L1 w3 → R (.bool ((n' : Int) == 0)) w3) ∨
      (Calls Tryd.prog f (fs ++ #[.pointer (some ⟨g, 0, none⟩)] ++ caps) w1 fun e w2 => e = .panicked badC ∧ ∃ L1, SH r (blk g4 4 [.bool false] :: L1) w2 ∧ ∀ w3, SH r L1 w3 → R (.bool false) w3)) :
    Ret Tryd.prog 39 #[.slice A n c, .func (.func f) fs caps] w R := by
  refine enterD Tryd.func39 rfl Tryd.ntmps39 [(0, .slice A n c), (1, .func (.func f) fs caps)] rfl (by simp) ?_
  intro ac hA
  refine wp_seq_k fun K0 h0 => ?_
  refine wp_reg ?_
  refine x_alloc (cs := [.bool false]) zr4 hA hS (fun g4 ac w hS hA => ?_)
  refine wpList_nil ?_
  refine h0 _ _ ?_
  refine wp_seq_k fun K1 h1 => ?_
  refine wp_reg ?_
  refine x_val hA (r_makeFunc rfl (mapev (vals := #[]) hA rfl) (mapev (vals := #[.pointer (some ⟨g4, 0, none⟩)]) hA rfl)) (fun ac hA => ?_)
  refine x_defer (vs := #[]) hA (fun ac hA => ?_)
  refine wpList_nil ?_
  refine h1 _ _ ?_
  refine wp_seq_k fun K2 h2 => ?_
  refine wp_reg ?_
  refine x_move hA (fun ac hA => ?_)
  refine x_val (v := .agg #[.slice A n c]) hA (r_build (ps := #[(0, .slice A n c)]) rfl (mapev2 hA rfl) (fun w => by kernel_rfl)) (fun ac hA => ?_)
  refine x_box hA hS (fun g ac w hS hA => ?_)
  refine x_assign hA (fun ac hA => ?_)
  refine wpList_nil ?_
  refine h2 _ _ ?_
  refine wp_seq_k fun K3 h3 => ?_
  refine wp_reg ?_
  refine x_move hA (fun ac hA => ?_)
  refine x_move hA (fun ac hA => ?_)
  rcases hret g g4 w hS with hr | hp
  · refine x_callw (vs := #[.pointer (some ⟨g, 0, none⟩)]) hf hA hr (fun v ac w hR hA => ?_)
    obtain ⟨L1, A', n', c', hS, hR⟩ := hR
    refine wpList_nil ?_
    refine h3 _ _ ?_
    refine wp_seq_k fun K4 h4 => ?_
    refine wp_reg ?_
    refine x_move hA (fun ac hA => ?_)
    refine x_val hA (r_nilCheck rfl (hA.ev rfl)) (fun ac hA => ?_)
    refine x_fab fa106_0 hA (fun ac hA => ?_)
    refine x_ld Tryd.underlying24 (hS.cell 0 rfl 0 _ rfl) hA (fun ac hA => ?_)
    refine x_val hA (r_len Tryd.underlying24 rfl (hA.ev rfl)) (fun ac hA => ?_)
    refine x_val hA (r_eqI rfl (hA.ev rfl) (hA.ev rfl)) (fun ac hA => ?_)
    refine x_stb (vs := [.bool ((n' : Int) == 0)]) 1 sz4 hA hS rfl (fun ac w hS hA => ?_)
    refine wpList_nil ?_
    refine h4 _ _ ?_
    refine wp_ret ?_
    show Leaves _ _ _ _ _ _ _
    rw [hA.defers]
    refine leaves_cons (f := 57) (args := #[.pointer (some ⟨g4, 0, none⟩)]) (by simp) (by simp [invoke, (en57 _ _ : _ = _)]) ?_
    refine CallsD.mono catch_idle ?_
    rintro e u' w' ⟨rfl, rfl, rfl⟩
    exact ⟨_, results_bool hA rfl hS, _, rfl, hR _ (hS.tail.tail)⟩
  · refine x_callp (vs := #[.pointer (some ⟨g, 0, none⟩)]) hf hA hp (fun w hR => ?_)
    obtain ⟨L1, hS, hR⟩ := hR
    show Leaves _ _ _ _ _ _ _
    rw [hA.defers]
    refine leaves_cons (f := 57) (args := #[.pointer (some ⟨g4, 0, none⟩)]) (by simp) (by simp [invoke, (en57 _ _ : _ = _)]) ?_
    refine CallsD.mono (catch_pan hS) ?_
    rintro e u' w' ⟨rfl, rfl, hS⟩
    exact ⟨_, results_bool hA rfl hS, _, rfl, hR _ hS.tail⟩
end
noncomputable section
set_option linter.unusedSimpArgs false
def column_Reader_Check (a0 : S106) (a1 : Bool) : Option ((S106) ⊕ (S106)) :=
  if (!a1) = true then (some (.inr a0)) else (some (.inl a0))
def column_Reader_Byte (a0 : S106) : Option ((Int × S106) ⊕ (S106)) :=
  (column_Reader_Check a0 (decide (0 < (a0.f0.length : Int)))).bind fun y107 => (sum_ y107 (fun y107 => ((at_ y107.f0 0).bind fun x118 => ((cut_ y107.f0 1 (y107.f0.length : Int)).bind fun l122 => (some (.inl (x118, (⟨l122⟩ : S106))))))) (fun y107 => (some (.inr y107))))
def column_Reader_Uint_j2 (x536 : Int) (l573 : (List Int)) : Option (((List Int) × Int × Int) ⊕ (((Int × S106) ⊕ (S106)))) :=
  some (.inr (.inl (x536, (⟨l573⟩ : S106))))
def column_Reader_Uint_j1 (a1 : Int) (x293 : Int) (x294 : Int) (y478 : (Int × S106)) (l521 : (List Int)) : Option (((List Int) × Int × Int) ⊕ (((Int × S106) ⊕ (S106)))) :=
  ltt (iand .u8 y478.1 127) fun x527 => (ltt (IntKind.u64.wrap x527) fun x529 => (ltt (IntKind.i64.wrap (7 * x294)) fun x531 => (chk (0 ≤ x531) (ltt (ishl .u64 x529 x531) fun x534 => (ltt (ior .u64 x293 x534) fun x536 => (if (decide (y478.1 < 128)) = true then (if (decide (x536 ≤ a1)) = true then (if (x294 == 0) = true then ((column_Reader_Check (⟨l521⟩ : S106) true).bind fun y581 => (sum_ y581 (fun y581 => (column_Reader_Uint_j2 x536 y581.f0)) (fun y581 => (some (.inr (.inr y581)))))) else ((column_Reader_Check (⟨l521⟩ : S106) (decide (0 < y478.1))).bind fun y591 => (sum_ y591 (fun y591 => (column_Reader_Uint_j2 x536 y591.f0)) (fun y591 => (some (.inr (.inr y591))))))) else ((column_Reader_Check (⟨l521⟩ : S106) false).bind fun y601 => (sum_ y601 (fun y601 => (column_Reader_Uint_j2 x536 y601.f0)) (fun y601 => (some (.inr (.inr y601))))))) else (ltt (IntKind.i64.wrap (x294 + 1)) fun x611 => (some (.inl (l521, x536, x611))))))))))
def column_Reader_Uint_l1 (a1 : Int) (l288 : (List Int)) (x293 : Int) (x294 : Int) : Option (((List Int) × Int × Int) ⊕ (((Int × S106) ⊕ (S106)))) :=
  (column_Reader_Byte (⟨l288⟩ : S106)).bind fun y478 => (sum_ y478 (fun y478 => (if (decide (x294 < 9)) = true then ((column_Reader_Check y478.2 true).bind fun y614 => (sum_ y614 (fun y614 => (column_Reader_Uint_j1 a1 x293 x294 y478 y614.f0)) (fun y614 => (some (.inr (.inr y614)))))) else (if (x294 == 9) = true then ((column_Reader_Check y478.2 (decide (y478.1 < 2))).bind fun y625 => (sum_ y625 (fun y625 => (column_Reader_Uint_j1 a1 x293 x294 y478 y625.f0)) (fun y625 => (some (.inr (.inr y625)))))) else ((column_Reader_Check y478.2 false).bind fun y635 => (sum_ y635 (fun y635 => (column_Reader_Uint_j1 a1 x293 x294 y478 y635.f0)) (fun y635 => (some (.inr (.inr y635))))))))) (fun y478 => (some (.inr (.inr y478)))))
def column_Reader_Uint (a0 : S106) (a1 : Int) : Option ((Int × S106) ⊕ (S106)) :=
  (loop (fun s => column_Reader_Uint_l1 a1 s.1 s.2.1 s.2.2) (a0.f0, 0, 0)).bind fun t => some t
def column_Reader_Int (a0 : S106) : Option ((Int × S106) ⊕ (S106)) :=
  (column_Reader_Uint a0 18446744073709551615).bind fun y107 => (sum_ y107 (fun y107 => (ltt (ishr .u64 y107.1 1) fun x118 => (ltt (IntKind.i64.wrap x118) fun x120 => (ltt (iand .u64 y107.1 1) fun x122 => (ltt (IntKind.i64.wrap x122) fun x124 => (ltt (ixor .i64 x120 (IntKind.i64.wrap (0 - x124))) fun x126 => (some (.inl (x126, y107.2))))))))) (fun y107 => (some (.inr y107))))
def column_Reader_Text (a0 : S106) (a1 : Int) : Option (((List UInt8) × S106) ⊕ (S106)) :=
  ltt (IntKind.u64.wrap a1) fun x107 => ((column_Reader_Uint a0 x107).bind fun y109 => (sum_ y109 (fun y109 => (ltt (IntKind.u64.wrap (y109.2.f0.length : Int)) fun x120 => ((column_Reader_Check y109.2 (decide (y109.1 ≤ x120))).bind fun y122 => (sum_ y122 (fun y122 => ((cut_ y122.f0 0 y109.1).bind fun l133 => ((cut_ y122.f0 y109.1 (y122.f0.length : Int)).bind fun l141 => (some (.inl (bts l133, (⟨l141⟩ : S106))))))) (fun y122 => (some (.inr y122))))))) (fun y109 => (some (.inr y109)))))
def column_list_int64_b1 (l464 : (List Int)) (l469 : (List Int)) : Option (((List Int) × S106) ⊕ (S106)) :=
  some (.inl (l469, (⟨l464⟩ : S106)))
def column_list_int64_x1_0 (l556 : (List Int)) (l561 : (List Int)) : Option (((List Int) × S106) ⊕ (S106)) :=
  column_list_int64_b1 l556 l561
def column_list_int64_l1 (a0 : Int) (l514 : (List Int)) (l519 : (List Int)) (x523 : Int) : Option (((List Int) × (List Int) × Int) ⊕ (((List Int) × (List Int)) ⊕ (((List Int) × S106) ⊕ (S106)))) :=
  if (decide (x523 < a0)) = true then ((column_Reader_Int (⟨l514⟩ : S106)).bind fun y571 => (sum_ y571 (fun y571 => (chk (l519.length + [y571.1].length ≤ 140737488355328 / 8) (ltt (IntKind.i64.wrap (x523 + 1)) fun x586 => (some (.inl (y571.2.f0, l519 ++ [y571.1], x586)))))) (fun y571 => (some (.inr (.inr (.inr y571))))))) else (some (.inr (.inl (l514, l519))))
def column_list_int64 (a0 : Int) (a60 : S106) : Option (((List Int) × S106) ⊕ (S106)) :=
  (loop (fun s => column_list_int64_l1 a0 s.1 s.2.1 s.2.2) (a60.f0, [], 0)).bind fun t => match t with | (.inl t) => column_list_int64_x1_0 t.1 t.2 | (.inr t) => some t
def column_unpack_b2 (l2329 : (List Int)) : Option (((List Int) × S106) ⊕ (S106)) :=
  some (.inl (l2329, (⟨[]⟩ : S106)))
def column_unpack_x1_2 (l2364 : (List Int)) : Option (((List Int) × S106) ⊕ (S106)) :=
  column_unpack_b2 l2364
def column_unpack_l1 (y107 : (Int × S106)) (l2180 : (List Int)) (l2347 : (List Int)) (x2348 : Int) : Option (((List Int) × Int) ⊕ (((List Int)))) :=
  if (decide (x2348 < (l2180.length : Int))) = true then ((at_ l2347 x2348).bind fun x2372 => (ltt (IntKind.i64.wrap (x2372 + y107.1)) fun x2375 => (ltt (IntKind.i64.wrap (x2348 + 1)) fun x2377 => (some (.inl (l2347.set x2348.toNat x2375, x2377)))))) else (some (.inr (l2347)))
def column_unpack_b1 (y107 : (Int × S106)) (l2175 : (List Int)) (l2180 : (List Int)) : Option (((List Int) × S106) ⊕ (S106)) :=
  (loop (fun s => column_unpack_l1 y107 l2180 s.1 s.2) (l2180, 0)).bind fun t => column_unpack_x1_2 t
def column_unpack_x2_0 (y107 : (Int × S106)) (l2828 : (List Int)) (l2833 : (List Int)) : Option (((List Int) × S106) ⊕ (S106)) :=
  column_unpack_b1 y107 l2828 l2833
def column_unpack_b3 (x2606 : Int) (l2992 : (List Int)) (l2997 : (List Int)) : Option (((List Int) × (List Int) × Int) ⊕ (((List Int) × (List Int)) ⊕ (((List Int) × S106) ⊕ (S106)))) :=
  ltt (IntKind.i64.wrap (x2606 + 1)) fun x2998 => (some (.inl (l2992, l2997, x2998)))
def column_unpack_l2 (a1 : Int) (x127 : Int) (x1502 : Int) (l2600 : (List Int)) (l2605 : (List Int)) (x2606 : Int) : Option (((List Int) × (List Int) × Int) ⊕ (((List Int) × (List Int)) ⊕ (((List Int) × S106) ⊕ (S106)))) :=
  if (decide (x2606 < x1502)) = true then (ltt (IntKind.i64.wrap (x2606.tdiv 8)) fun x3002 => ((at_ l2600 x3002).bind fun x3004 => (ltt (x2606.tmod 8) fun x3007 => (chk (0 ≤ x3007) (ltt (ishr .u8 x3004 x3007) fun x3010 => (ltt (IntKind.u64.wrap x3010) fun x3012 => (ltt (iand .u64 x3012 1) fun x3014 => (ltt (IntKind.i64.wrap (a1 * x127)) fun x3018 => (if (decide (x3018 ≤ x2606)) = true then ((column_Reader_Check (⟨l2600⟩ : S106) (x3014 == 0)).bind fun y3022 => (sum_ y3022 (fun y3022 => (column_unpack_b3 x2606 y3022.f0 l2605)) (fun y3022 => (some (.inr (.inr (.inr y3022))))))) else (chk (x127 ≠ 0) (ltt (IntKind.i64.wrap (x2606.tdiv x127)) fun x3033 => ((at_ l2605 x3033).bind fun x3035 => (chk (x127 ≠ 0) (ltt (x2606.tmod x127) fun x3039 => (chk (0 ≤ x3039) (ltt (ishl .u64 x3014 x3039) fun x3042 => (ltt (IntKind.i64.wrap x3042) fun x3044 => (ltt (ior .i64 x3035 x3044) fun x3046 => (column_unpack_b3 x2606 l2600 (l2605.set x3033.toNat x3046)))))))))))))))))))) else (some (.inr (.inl (l2600, l2605))))
def column_unpack_j1 (a1 : Int) (y107 : (Int × S106)) (x127 : Int) (l157 : (List Int)) : Option (((List Int) × S106) ⊕ (S106)) :=
  chk (0 ≤ a1 ∧ (8 : Int) * a1 ≤ 140737488355328) (ltt (IntKind.i64.wrap (8 * (l157.length : Int))) fun x1502 => ((loop (fun s => column_unpack_l2 a1 x127 x1502 s.1 s.2.1 s.2.2) (l157, List.replicate a1.toNat (0 : Int), 0)).bind fun t => match t with | (.inl t) => column_unpack_x2_0 y107 t.1 t.2 | (.inr t) => some t))
def column_unpack (a0 : S106) (a1 : Int) : Option (((List Int) × S106) ⊕ (S106)) :=
  (column_Reader_Int a0).bind fun y107 => (sum_ y107 (fun y107 => ((column_Reader_Byte y107.2).bind fun y117 => (sum_ y117 (fun y117 => (ltt (IntKind.i64.wrap y117.1) fun x127 => (if (decide (x127 ≤ 64)) = true then (ltt (IntKind.i64.wrap (a1 * x127)) fun x3049 => (ltt (IntKind.i64.wrap (x3049 + 7)) fun x3051 => (ltt (IntKind.i64.wrap (x3051.tdiv 8)) fun x3053 => ((column_Reader_Check y117.2 ((y117.2.f0.length : Int) == x3053)).bind fun y3055 => (sum_ y3055 (fun y3055 => (column_unpack_j1 a1 y107 x127 y3055.f0)) (fun y3055 => (some (.inr y3055)))))))) else ((column_Reader_Check y117.2 false).bind fun y3065 => (sum_ y3065 (fun y3065 => (column_unpack_j1 a1 y107 x127 y3065.f0)) (fun y3065 => (some (.inr y3065)))))))) (fun y117 => (some (.inr y117)))))) (fun y107 => (some (.inr y107))))
def column_ints_b1 (l6763 : (List Int)) (l6768 : (List Int)) : Option (((List Int) × S106) ⊕ (S106)) :=
  some (.inl (l6768, (⟨l6763⟩ : S106)))
def column_ints_b2 (l6919 : (List Int)) (l6924 : (List Int)) : Option (((List Int) × S106) ⊕ (S106)) :=
  column_ints_b1 l6919 l6924
def column_ints_x1_1 (l7019 : (List Int)) (l7024 : (List Int)) : Option (((List Int) × S106) ⊕ (S106)) :=
  column_ints_b2 l7019 l7024
def column_ints_l1 (x139 : Int) (l6972 : (List Int)) (l6977 : (List Int)) (x6981 : Int) (x6982 : Int) : Option (((List Int) × (List Int) × Int × Int) ⊕ (((List Int) × (List Int)) ⊕ (((List Int) × S106) ⊕ (S106)))) :=
  if (decide (x6982 < x139)) = true then ((column_Reader_Int (⟨l6972⟩ : S106)).bind fun y7035 => (sum_ y7035 (fun y7035 => (ltt (IntKind.i64.wrap (x6981 + y7035.1)) fun x7045 => (chk (l6977.length + [x7045].length ≤ 140737488355328 / 8) (ltt (IntKind.i64.wrap (x6982 + 1)) fun x7052 => (some (.inl (y7035.2.f0, l6977 ++ [x7045], x7045, x7052))))))) (fun y7035 => (some (.inr (.inr (.inr y7035))))))) else (some (.inr (.inl (l6972, l6977))))
def column_ints_b3 (l8002 : (List Int)) (l8007 : (List Int)) : Option (((List Int) × S106) ⊕ (S106)) :=
  column_ints_b1 l8002 l8007
def column_ints_x2_3 (l8646 : (List Int)) (l8651 : (List Int)) : Option (((List Int) × S106) ⊕ (S106)) :=
  column_ints_b3 l8646 l8651
def column_ints_b4 (y8826 : (Int × S106)) (l8895 : (List Int)) : Option (((List Int) × (List Int)) ⊕ (((List Int) × (List Int)) ⊕ (((List Int) × S106) ⊕ (S106)))) :=
  some (.inl (y8826.2.f0, l8895))
def column_ints_x3_5 (y8826 : (Int × S106)) (l8938 : (List Int)) : Option (((List Int) × (List Int)) ⊕ (((List Int) × (List Int)) ⊕ (((List Int) × S106) ⊕ (S106)))) :=
  column_ints_b4 y8826 l8938
def column_ints_l3 (y8809 : (Int × S106)) (x8836 : Int) (l8916 : (List Int)) (x8920 : Int) : Option (((List Int) × Int) ⊕ (((List Int)))) :=
  if (decide (x8920 < x8836)) = true then (chk (l8916.length + [y8809.1].length ≤ 140737488355328 / 8) (ltt (IntKind.u64.wrap (x8920 + 1)) fun x8953 => (some (.inl (l8916 ++ [y8809.1], x8953))))) else (some (.inr (l8916)))
def column_ints_l2 (x139 : Int) (l8328 : (List Int)) (l8333 : (List Int)) : Option (((List Int) × (List Int)) ⊕ (((List Int) × (List Int)) ⊕ (((List Int) × S106) ⊕ (S106)))) :=
  if (decide ((l8333.length : Int) < x139)) = true then ((column_Reader_Int (⟨l8328⟩ : S106)).bind fun y8809 => (sum_ y8809 (fun y8809 => (ltt (IntKind.i64.wrap (x139 - (l8333.length : Int))) fun x8820 => (ltt (IntKind.i64.wrap (x8820 - 1)) fun x8822 => (ltt (IntKind.u64.wrap x8822) fun x8824 => ((column_Reader_Uint y8809.2 x8824).bind fun y8826 => (sum_ y8826 (fun y8826 => (ltt (IntKind.u64.wrap (1 + y8826.1)) fun x8836 => ((loop (fun s => column_ints_l3 y8809 x8836 s.1 s.2) (l8333, 0)).bind fun t => column_ints_x3_5 y8826 t))) (fun y8826 => (some (.inr (.inr (.inr y8826))))))))))) (fun y8809 => (some (.inr (.inr (.inr y8809))))))) else (some (.inr (.inl (l8328, l8333))))
def column_ints (a0 : S106) : Option (((List Int) × S106) ⊕ (S106)) :=
  (column_Reader_Byte a0).bind fun y107 => (sum_ y107 (fun y107 => ((column_Reader_Check y107.2 (decide (y107.1 ≤ 3))).bind fun y118 => (sum_ y118 (fun y118 => ((column_Reader_Uint y118 4096).bind fun y129 => (sum_ y129 (fun y129 => (ltt (IntKind.i64.wrap y129.1) fun x139 => (if (y107.1 == 0) = true then ((column_list_int64 x139 y129.2).bind fun y6775 => (sum_ y6775 (fun y6775 => (column_ints_b1 y6775.2.f0 y6775.1)) (fun y6775 => (some (.inr y6775))))) else (if (y107.1 == 1) = true then ((loop (fun s => column_ints_l1 x139 s.1 s.2.1 s.2.2.1 s.2.2.2) (y129.2.f0, [], 0, 0)).bind fun t => match t with | (.inl t) => column_ints_x1_1 t.1 t.2 | (.inr t) => some t) else (if (y107.1 == 2) = true then ((loop (fun s => column_ints_l2 x139 s.1 s.2) (y129.2.f0, [])).bind fun t => match t with | (.inl t) => column_ints_x2_3 t.1 t.2 | (.inr t) => some t) else (if (y107.1 == 3) = true then (if (decide (0 < x139)) = true then ((column_unpack y129.2 x139).bind fun y8959 => (sum_ y8959 (fun y8959 => (column_ints_b1 y8959.2.f0 y8959.1)) (fun y8959 => (some (.inr y8959))))) else (column_ints_b1 y129.2.f0 [])) else (column_ints_b1 y129.2.f0 []))))))) (fun y129 => (some (.inr y129)))))) (fun y118 => (some (.inr y118)))))) (fun y107 => (some (.inr y107))))
def column_ReadInts_1 (a0 : S106) (a1 : (List Int)) : Option ((S106 × (List Int)) ⊕ (S106 × (List Int))) :=
  (column_ints a0).bind fun y108 => (sum_ y108 (fun y108 => (some (.inl (y108.2, y108.1)))) (fun y108 => (some (.inr (y108, a1)))))
def Try_column_ReadInts_1 (a0 : (List Int)) (a60 : (List Int)) : Option (Bool × (List Int)) :=
  (column_ReadInts_1 (⟨a0⟩ : S106) a60).bind fun y => (sum_ y (fun y => some ((((y.1.f0.length : Int) == 0), y.2))) (fun y => some ((false, y.2))))
def column_ReadInts (a0 : (List Int)) : Option ((List Int) × Int) :=
  (Try_column_ReadInts_1 a0 []).bind fun y106 => (if (!y106.1) = true then (some ([], 3)) else (some (y106.2, 0)))
end
theorem F_column_Reader_Check {r : World} {L : List HP} {w : World} {Z : Nat → Prop} {wz : World} (a0 : S106) (a1 : Bool) (g0 : Nat) {y : ((S106) ⊕ (S106))} (G : column_Reader_Check a0 a1 = some y) (qz : Nat) (hZ : L[qz]? = some (zone Z wz)) (X : SH r (obj106 Z wz g0 a0 :: L) w) :
  RetS Tryd.prog 59 #[.pointer (some ⟨g0, 0, none⟩), .bool a1] w badC y (fun y v w' => v = .tuple #[] ∧ SH r (obj106 Z wz g0 y :: L) w') (fun y w' => SH r (obj106 Z wz g0 y :: L) w') := by
 refine enterS Tryd.func59 rfl Tryd.ntmps59 [(0, (pP g0)), (1, .bool a1)] rfl (by simp) ?_
 intro U J Qf hQ hQn hQp
 unfold column_Reader_Check at G
 obtain ⟨A100, n101, c102, X⟩ := obj106_open X
 obtain ⟨h103, X⟩ := (X.pk 1).unpure
 refine ws fun K104 hK104 => ?_
 refine x_m J rfl fun U J => ?_
 refine x_v J (r_not rfl (J.ev rfl)) rfl fun U J => ?_
 refine wn (hK104 _ _ ?_)
 refine c_if J rfl (fun hb105 => ?_) fun hb105 => ?_
 ·replace G := ift hb105 G
  refine wp_reg ?_
  refine x_v (v := .agg #[]) J (r_build (ps := #[]) rfl (mapev2 J rfl) (fun w => by kernel_rfl)) rfl fun U J => ?_
  refine x_v J (r_makeI uu102 rfl rfl (J.ev rfl)) rfl fun U J => ?_
  refine x_panic' J ?_ rfl
  replace X := SH.pure_ h103 X
  replace X := X.pk 1
  replace X := obj106_mk (x := a0) X
  cases G
  exact hQp _ rfl _ _ J.defers X
 replace G := iff' hb105 G
 refine wp_skip ?_
 replace X := SH.pure_ h103 X
 replace X := X.pk 1
 replace X := obj106_mk (x := a0) X
 cases G
 refine hQn _ rfl _ _ ?_
 refine lv0n Tryd.results59 J ?_
 exact ⟨rfl, X⟩
theorem F_column_Reader_Byte {r : World} {L : List HP} {w : World} {Z : Nat → Prop} {wz : World} (a0 : S106) (g0 : Nat) {y : ((Int × S106) ⊕ (S106))} (G : column_Reader_Byte a0 = some y) (qz : Nat) (hZ : L[qz]? = some (zone Z wz)) (X : SH r (obj106 Z wz g0 a0 :: L) w) :
  RetS Tryd.prog 76 #[.pointer (some ⟨g0, 0, none⟩)] w badC y (fun y v w' => v = .int .u8 y.1 ∧ SH r (obj106 Z wz g0 y.2 :: L) w') (fun y w' => SH r (obj106 Z wz g0 y :: L) w') := by
 refine enterS Tryd.func76 rfl Tryd.ntmps76 [(0, (pP g0))] rfl (by simp) ?_
 intro U J Qf hQ hQn hQp
 unfold column_Reader_Byte at G
 obtain ⟨A100, n101, c102, X⟩ := obj106_open X
 obtain ⟨h103, X⟩ := (X.pk 1).unpure
 refine ws fun K104 hK104 => ?_
 refine x_m J rfl fun U J => ?_
 refine wn (hK104 _ _ ?_)
 refine ws fun K105 hK105 => ?_
 refine x_m J rfl fun U J => ?_
 refine x_m J rfl fun U J => ?_
 refine x_v J (r_nilCheck rfl (J.ev rfl)) rfl fun U J => ?_
 refine x_fab' fa106_0 J (fun U J => ?_) rfl
 refine x_ld' uu24 (X.cell 0 rfl 0 _ rfl) J (fun U J => ?_) rfl
 refine x_len' uu24 (X.rdl 1 (h103.rdl qz hZ) rfl).2.1 J (fun U J => ?_) rfl
 refine x_v J (r_gtI rfl (J.ev rfl) (J.ev rfl)) rfl fun U J => ?_
 replace X := SH.pure_ h103 X
 replace X := X.pk 1
 replace X := obj106_mk (x := a0) X
 obtain ⟨y106, h107, G⟩ := bnd G
 rcases y106 with y106 | y106
 rotate_left
 ·replace G := sum_r G
  refine x_callp' (vs := #[.pointer (some ⟨g0, 0, none⟩), .bool (decide (0 < (a0.f0.length : Int)))]) en59 J (RetS.rf (F_column_Reader_Check (L := L) a0 (decide (0 < (a0.f0.length : Int))) g0 h107 (qz + 0) hZ X)) (fun w hR => ?_) rfl
  replace X := hR
  obtain ⟨A108, n109, c110, X⟩ := obj106_open X
  obtain ⟨h111, X⟩ := (X.pk 1).unpure
  replace X := SH.pure_ h111 X
  replace X := X.pk 1
  replace X := obj106_mk (x := y106) X
  cases G
  exact hQp _ rfl _ _ J.defers X
 replace G := sum_l G
 refine x_callw' (vs := #[.pointer (some ⟨g0, 0, none⟩), .bool (decide (0 < (a0.f0.length : Int)))]) en59 J (RetS.lf (F_column_Reader_Check (L := L) a0 (decide (0 < (a0.f0.length : Int))) g0 h107 (qz + 0) hZ X)) (fun v U w hR J => ?_) rfl
 obtain ⟨rfl, X⟩ := hR
 obtain ⟨A112, n113, c114, X⟩ := obj106_open X
 obtain ⟨h115, X⟩ := (X.pk 1).unpure
 refine wn (hK105 _ _ ?_)
 refine ws fun K116 hK116 => ?_
 refine x_m J rfl fun U J => ?_
 refine x_v J (r_nilCheck rfl (J.ev rfl)) rfl fun U J => ?_
 refine x_fab' fa106_0 J (fun U J => ?_) rfl
 refine x_ld' uu24 (X.cell 0 rfl 0 _ rfl) J (fun U J => ?_) rfl
 obtain ⟨x117, h118, G⟩ := bnd G
 refine x_ia' uu24 sz5 (X.rdl 1 (h115.rdl qz hZ) rfl) h118 J (fun U J => ?_) rfl
 obtain ⟨cs, hV, hc119⟩ := el (X.rdl 1 (h115.rdl qz hZ) rfl) h118
 obtain rfl := hV
 refine x_ld' uu5 (hc119 0 _ rfl) J (fun U J => ?_) rfl
 refine x_m J rfl fun U J => ?_
 refine wn (hK116 _ _ ?_)
 refine ws fun K120 hK120 => ?_
 refine x_m J rfl fun U J => ?_
 refine x_m J rfl fun U J => ?_
 refine x_v J (r_nilCheck rfl (J.ev rfl)) rfl fun U J => ?_
 refine x_fab' fa106_0 J (fun U J => ?_) rfl
 refine x_ld' uu24 (X.cell 0 rfl 0 _ rfl) J (fun U J => ?_) rfl
 obtain ⟨l121, h122, G⟩ := bnd G
 obtain ⟨A123, n124, c125, e126, h127⟩ := imm_lc h115 h122
 refine x_v (v := .slice A123 n124 c125) J (rv_e e126 (r_slice_l uu24 sz5 rfl (J.ev rfl) (J.ev rfl) (cutq (X.rdl 1 (h115.rdl qz hZ) rfl) h122).1 (cutq (X.rdl 1 (h115.rdl qz hZ) rfl) h122).2.2.2.2.2)) rfl fun U J => ?_
 refine x_v J (r_nilCheck rfl (J.ev rfl)) rfl fun U J => ?_
 refine x_fab' fa106_0 J (fun U J => ?_) rfl
 refine x_stb' 0 sz24 J X rfl (fun  U w X J => ?_) rfl
 refine wn (hK120 _ _ ?_)
 refine ws fun K128 hK128 => ?_
 refine x_m J rfl fun U J => ?_
 refine x_m J rfl fun U J => ?_
 refine wn (hK128 _ _ ?_)
 refine wp_ret ?_
 replace X := SH.pure_ h127 X
 replace X := X.pk 1
 replace X := obj106_mk (x := (⟨l121⟩ : S106)) X
 cases G
 refine hQ _ rfl _ _ ?_
 refine lv Tryd.results76 J rfl ?_
 exact ⟨rfl, X⟩
theorem F_column_Reader_Uint {r : World} {L : List HP} {w : World} {Z : Nat → Prop} {wz : World} (a0 : S106) (a1 : Int) (g0 : Nat) {y : ((Int × S106) ⊕ (S106))} (G : column_Reader_Uint a0 a1 = some y) (qz : Nat) (hZ : L[qz]? = some (zone Z wz)) (X : SH r (obj106 Z wz g0 a0 :: L) w) :
  RetS Tryd.prog 58 #[.pointer (some ⟨g0, 0, none⟩), .int .u64 a1] w badC y (fun y v w' => v = .int .u64 y.1 ∧ SH r (obj106 Z wz g0 y.2 :: L) w') (fun y w' => SH r (obj106 Z wz g0 y :: L) w') := by
 refine enterS Tryd.func58 rfl Tryd.ntmps58 [(0, (pP g0)), (1, .int .u64 a1)] rfl (by simp) ?_
 intro U J Qf hQ hQn hQp
 unfold column_Reader_Uint at G
 obtain ⟨A100, n101, c102, X⟩ := obj106_open X
 obtain ⟨h103, X⟩ := (X.pk 1).unpure
 refine ws fun K104 hK104 => ?_
 refine x_m J rfl fun U J => ?_
 refine wn (hK104 _ _ ?_)
 refine ws fun K105 hK105 => ?_
 refine x_m J rfl fun U J => ?_
 refine wn (hK105 _ _ ?_)
 refine ws fun K106 hK106 => ?_
 refine x_m J rfl fun U J => ?_
 refine wn (hK106 _ _ ?_)
 refine wp_block_k fun Kx107 hKx107 => ?_
 obtain ⟨t108, hl108, G⟩ := bnd G
 have hR108 := G
 refine wp_loop_fn hl108 (fun s U w => ∃ (A109 : Option Addr) (n110 : Nat) (c111 : Nat), Imm Z wz (kI .u8) A109 n110 c111 s.1 ∧ FR 48 [] U [(0, (pP g0)), (1, .int .u64 a1), (5, .int .u64 s.2.1), (6, .int .i64 s.2.2)] ∧ SH r (blk g0 106 [.slice A109 n110 c111] :: L) w) ⟨A100, n101, c102, h103, J.sub _ rfl, X⟩ ?_
 intro N108 s108 o108 G N108_ T108_ U w hLab
 obtain ⟨l112, x113, x114⟩ := s108
 replace G : column_Reader_Uint_l1 a1 l112 x113 x114 = some o108 := G
 unfold column_Reader_Uint_l1 at G
 try dsimp only at hLab
 obtain ⟨A109, n110, c111, h115, J, X⟩ := hLab
 refine wp_seq_k fun K116 hK116 => ?_
 refine wp_block_k fun Kx117 hKx117 => ?_
 refine ws fun K118 hK118 => ?_
 refine x_m J rfl fun U J => ?_
 replace X := SH.pure_ h115 X
 replace X := X.pk 1
 replace X := obj106_mk (x := (⟨l112⟩ : S106)) X
 obtain ⟨y119, h120, G⟩ := bnd G
 rcases y119 with y119 | y119
 rotate_left
 ·replace G := sum_r G
  refine x_callp' (vs := #[.pointer (some ⟨g0, 0, none⟩)]) en76 J (RetS.rf (F_column_Reader_Byte (L := L) (⟨l112⟩ : S106) g0 h120 (qz + 0) hZ X)) (fun w hR => ?_) rfl
  replace X := hR
  obtain ⟨A121, n122, c123, X⟩ := obj106_open X
  obtain ⟨h124, X⟩ := (X.pk 1).unpure
  replace X := SH.pure_ h124 X
  replace X := X.pk 1
  replace X := obj106_mk (x := y119) X
  cases G
  have ht := T108_ _ rfl
  subst ht
  replace G := hR108
  replace G : some (.inr y119) = some y := G
  cases G
  exact hQp _ rfl _ _ J.defers X
 replace G := sum_l G
 refine x_callw' (vs := #[.pointer (some ⟨g0, 0, none⟩)]) en76 J (RetS.lf (F_column_Reader_Byte (L := L) (⟨l112⟩ : S106) g0 h120 (qz + 0) hZ X)) (fun v U w hR J => ?_) rfl
 obtain ⟨rfl, X⟩ := hR
 obtain ⟨A125, n126, c127, X⟩ := obj106_open X
 obtain ⟨h128, X⟩ := (X.pk 1).unpure
 refine x_m J rfl fun U J => ?_
 refine wn (hK118 _ _ ?_)
 refine wp_seq_k fun K129 hK129 => ?_
 have hj1 : ∀ (l130 : (List Int)), column_Reader_Uint_j1 a1 x113 x114 y119 l130 = some o108 → ∀ (A131 : Option Addr) (n132 : Nat) (c133 : Nat) (h134 : Imm Z wz (kI .u8) A131 n132 c133 l130) (U : Act) (w : World), FR 48 [] U [(0, (pP g0)), (1, .int .u64 a1), (5, .int .u64 x113), (6, .int .i64 x114), (7, .int .u8 y119.1)] → SH r (blk g0 106 [.slice A131 n132 c133] :: L) w → K129 U w := by
  intro l130 G A131 n132 c133 h134 U w J X
  unfold column_Reader_Uint_j1 at G
  refine hK129 _ _ ?_
  refine ws fun K135 hK135 => ?_
  refine x_m J rfl fun U J => ?_
  refine x_m J rfl fun U J => ?_
  obtain ⟨x136, h137, G⟩ := ltt_ G
  refine x_v (v := .int .u8 x136) J (rv_i h137 (r_and rfl (J.ev rfl) (J.ev rfl))) rfl fun U J => ?_
  obtain ⟨x138, h139, G⟩ := ltt_ G
  refine x_v (v := .int .u64 x138) J (rv_i h139 (r_convI uu5 uu31 rfl (J.ev rfl))) rfl fun U J => ?_
  refine x_m J rfl fun U J => ?_
  obtain ⟨x140, h141, G⟩ := ltt_ G
  refine x_v (v := .int .i64 x140) J (rv_i h141 (r_mul rfl (J.ev rfl) (J.ev rfl))) rfl fun U J => ?_
  obtain ⟨h142, G⟩ := chk_some G
  obtain ⟨x143, h144, G⟩ := ltt_ G
  refine x_v (v := .int .u64 x143) J (rv_i h144 (r_shl rfl (J.ev rfl) (J.ev rfl) h142)) rfl fun U J => ?_
  obtain ⟨x145, h146, G⟩ := ltt_ G
  refine x_v (v := .int .u64 x145) J (rv_i h146 (r_or rfl (J.ev rfl) (J.ev rfl))) rfl fun U J => ?_
  refine x_m J rfl fun U J => ?_
  refine wn (hK135 _ _ ?_)
  refine ws fun K147 hK147 => ?_
  refine x_m J rfl fun U J => ?_
  refine x_v J (r_ltI rfl (J.ev rfl) (J.ev rfl)) rfl fun U J => ?_
  refine wn (hK147 _ _ ?_)
  refine c_if J rfl (fun hb148 => ?_) fun hb148 => ?_
  ·replace G := ift hb148 G
   refine wp_seq_k fun K149 hK149 => ?_
   have hj2 : ∀ (l150 : (List Int)), column_Reader_Uint_j2 x145 l150 = some o108 → ∀ (A151 : Option Addr) (n152 : Nat) (c153 : Nat) (h154 : Imm Z wz (kI .u8) A151 n152 c153 l150) (U : Act) (w : World), FR 48 [] U [(0, (pP g0)), (5, .int .u64 x145)] → SH r (blk g0 106 [.slice A151 n152 c153] :: L) w → K149 U w := by
    intro l150 G A151 n152 c153 h154 U w J X
    unfold column_Reader_Uint_j2 at G
    refine hK149 _ _ ?_
    refine ws fun K155 hK155 => ?_
    refine x_m J rfl fun U J => ?_
    refine x_m J rfl fun U J => ?_
    refine wn (hK155 _ _ ?_)
    refine wp_ret ?_
    replace X := SH.pure_ h154 X
    replace X := X.pk 1
    replace X := obj106_mk (x := (⟨l150⟩ : S106)) X
    cases G
    have ht := T108_ _ rfl
    subst ht
    replace G := hR108
    replace G : some (.inl (x145, (⟨l150⟩ : S106))) = some y := G
    cases G
    refine hQ _ rfl _ _ ?_
    refine lv Tryd.results58 J rfl ?_
    exact ⟨rfl, X⟩
   refine wp_reg ?_
   refine x_m J rfl fun U J => ?_
   refine x_m J rfl fun U J => ?_
   refine x_m J rfl fun U J => ?_
   refine x_v J (r_leI rfl (J.ev rfl) (J.ev rfl)) rfl fun U J => ?_
   refine x_m J rfl fun U J => ?_
   refine bcase (b := decide (x145 ≤ a1)) (fun hb156 => ?_) fun hb156 => ?_
   ·replace G := ift hb156 G
    refine x_on' hb156 J ?_ rfl
    refine x_m J rfl fun U J => ?_
    refine x_on' hb156 J ?_ rfl
    refine x_v J (r_eqI rfl (J.ev rfl) (J.ev rfl)) rfl fun U J => ?_
    refine x_on' hb156 J ?_ rfl
    refine x_m J rfl fun U J => ?_
    refine bcase (b := x114 == 0) (fun hb157 => ?_) fun hb157 => ?_
    ·replace G := ift hb157 G
     refine xO 2 hb157 J rfl fun U J => ?_
     refine x_on' hb156 J ?_ rfl
     refine x_pickt' hb157 J (fun U J => ?_) rfl
     refine x_pickt' hb156 J (fun U J => ?_) rfl
     replace X := SH.pure_ h134 X
     replace X := X.pk 1
     replace X := obj106_mk (x := (⟨l130⟩ : S106)) X
     obtain ⟨y158, h159, G⟩ := bnd G
     rcases y158 with y158 | y158
     rotate_left
     ·replace G := sum_r G
      refine x_callp' (vs := #[.pointer (some ⟨g0, 0, none⟩), .bool true]) en59 J (RetS.rf (F_column_Reader_Check (L := L) (⟨l130⟩ : S106) true g0 h159 (qz + 0) hZ X)) (fun w hR => ?_) rfl
      replace X := hR
      obtain ⟨A160, n161, c162, X⟩ := obj106_open X
      obtain ⟨h163, X⟩ := (X.pk 1).unpure
      replace X := SH.pure_ h163 X
      replace X := X.pk 1
      replace X := obj106_mk (x := y158) X
      cases G
      have ht := T108_ _ rfl
      subst ht
      replace G := hR108
      replace G : some (.inr y158) = some y := G
      cases G
      exact hQp _ rfl _ _ J.defers X
     replace G := sum_l G
     refine x_callw' (vs := #[.pointer (some ⟨g0, 0, none⟩), .bool true]) en59 J (RetS.lf (F_column_Reader_Check (L := L) (⟨l130⟩ : S106) true g0 h159 (qz + 0) hZ X)) (fun v U w hR J => ?_) rfl
     obtain ⟨rfl, X⟩ := hR
     obtain ⟨A164, n165, c166, X⟩ := obj106_open X
     obtain ⟨h167, X⟩ := (X.pk 1).unpure
     refine wpList_nil ?_
     exact hj2 y158.f0 G A164 n165 c166 h167 U w (J.sub _ rfl) X
    replace G := iff' hb157 G
    refine x_on' hb157 J ?_ rfl
    refine x_m J rfl fun U J => ?_
    refine x_on' hb157 J ?_ rfl
    refine x_v J (r_gtI rfl (J.ev rfl) (J.ev rfl)) rfl fun U J => ?_
    refine x_on' hb156 J ?_ rfl
    refine x_pickf' hb157 J (fun U J => ?_) rfl
    refine x_pickt' hb156 J (fun U J => ?_) rfl
    replace X := SH.pure_ h134 X
    replace X := X.pk 1
    replace X := obj106_mk (x := (⟨l130⟩ : S106)) X
    obtain ⟨y168, h169, G⟩ := bnd G
    rcases y168 with y168 | y168
    rotate_left
    ·replace G := sum_r G
     refine x_callp' (vs := #[.pointer (some ⟨g0, 0, none⟩), .bool (decide (0 < y119.1))]) en59 J (RetS.rf (F_column_Reader_Check (L := L) (⟨l130⟩ : S106) (decide (0 < y119.1)) g0 h169 (qz + 0) hZ X)) (fun w hR => ?_) rfl
     replace X := hR
     obtain ⟨A170, n171, c172, X⟩ := obj106_open X
     obtain ⟨h173, X⟩ := (X.pk 1).unpure
     replace X := SH.pure_ h173 X
     replace X := X.pk 1
     replace X := obj106_mk (x := y168) X
     cases G
     have ht := T108_ _ rfl
     subst ht
     replace G := hR108
     replace G : some (.inr y168) = some y := G
     cases G
     exact hQp _ rfl _ _ J.defers X
    replace G := sum_l G
    refine x_callw' (vs := #[.pointer (some ⟨g0, 0, none⟩), .bool (decide (0 < y119.1))]) en59 J (RetS.lf (F_column_Reader_Check (L := L) (⟨l130⟩ : S106) (decide (0 < y119.1)) g0 h169 (qz + 0) hZ X)) (fun v U w hR J => ?_) rfl
    obtain ⟨rfl, X⟩ := hR
    obtain ⟨A174, n175, c176, X⟩ := obj106_open X
    obtain ⟨h177, X⟩ := (X.pk 1).unpure
    refine wpList_nil ?_
    exact hj2 y168.f0 G A174 n175 c176 h177 U w (J.sub _ rfl) X
   replace G := iff' hb156 G
   refine xO 3 hb156 J rfl fun U J => ?_
   refine x_offU' J (fun U J => ?_) rfl
   refine x_offU' J (fun U J => ?_) rfl
   refine xO 1 hb156 J rfl fun U J => ?_
   refine x_pickf' hb156 J (fun U J => ?_) rfl
   replace X := SH.pure_ h134 X
   replace X := X.pk 1
   replace X := obj106_mk (x := (⟨l130⟩ : S106)) X
   obtain ⟨y178, h179, G⟩ := bnd G
   rcases y178 with y178 | y178
   rotate_left
   ·replace G := sum_r G
    refine x_callp' (vs := #[.pointer (some ⟨g0, 0, none⟩), .bool false]) en59 J (RetS.rf (F_column_Reader_Check (L := L) (⟨l130⟩ : S106) false g0 h179 (qz + 0) hZ X)) (fun w hR => ?_) rfl
    replace X := hR
    obtain ⟨A180, n181, c182, X⟩ := obj106_open X
    obtain ⟨h183, X⟩ := (X.pk 1).unpure
    replace X := SH.pure_ h183 X
    replace X := X.pk 1
    replace X := obj106_mk (x := y178) X
    cases G
    have ht := T108_ _ rfl
    subst ht
    replace G := hR108
    replace G : some (.inr y178) = some y := G
    cases G
    exact hQp _ rfl _ _ J.defers X
   replace G := sum_l G
   refine x_callw' (vs := #[.pointer (some ⟨g0, 0, none⟩), .bool false]) en59 J (RetS.lf (F_column_Reader_Check (L := L) (⟨l130⟩ : S106) false g0 h179 (qz + 0) hZ X)) (fun v U w hR J => ?_) rfl
   obtain ⟨rfl, X⟩ := hR
   obtain ⟨A184, n185, c186, X⟩ := obj106_open X
   obtain ⟨h187, X⟩ := (X.pk 1).unpure
   refine wpList_nil ?_
   exact hj2 y178.f0 G A184 n185 c186 h187 U w (J.sub _ rfl) X
  replace G := iff' hb148 G
  refine wp_skip ?_
  refine hKx117 _ _ ?_
  refine hK116 _ _ ?_
  refine wp_reg ?_
  refine x_m J rfl fun U J => ?_
  obtain ⟨x188, h189, G⟩ := ltt_ G
  refine x_v (v := .int .i64 x188) J (rv_i h189 (r_add rfl (J.ev rfl) (J.ev rfl))) rfl fun U J => ?_
  refine x_m J rfl fun U J => ?_
  refine wpList_nil ?_
  cases G
  exact ⟨_, N108_ _ rfl, A131, n132, c133, h134, J.sub _ rfl, X⟩
 refine wp_reg ?_
 refine x_m J rfl fun U J => ?_
 refine x_m J rfl fun U J => ?_
 refine x_v J (r_ltI rfl (J.ev rfl) (J.ev rfl)) rfl fun U J => ?_
 refine x_m J rfl fun U J => ?_
 refine bcase (b := decide (x114 < 9)) (fun hb190 => ?_) fun hb190 => ?_
 ·replace G := ift hb190 G
  refine xO 3 hb190 J rfl fun U J => ?_
  refine x_offU' J (fun U J => ?_) rfl
  refine x_offU' J (fun U J => ?_) rfl
  refine xO 1 hb190 J rfl fun U J => ?_
  refine x_pickt' hb190 J (fun U J => ?_) rfl
  replace X := SH.pure_ h128 X
  replace X := X.pk 1
  replace X := obj106_mk (x := y119.2) X
  obtain ⟨y191, h192, G⟩ := bnd G
  rcases y191 with y191 | y191
  rotate_left
  ·replace G := sum_r G
   refine x_callp' (vs := #[.pointer (some ⟨g0, 0, none⟩), .bool true]) en59 J (RetS.rf (F_column_Reader_Check (L := L) y119.2 true g0 h192 (qz + 0) hZ X)) (fun w hR => ?_) rfl
   replace X := hR
   obtain ⟨A193, n194, c195, X⟩ := obj106_open X
   obtain ⟨h196, X⟩ := (X.pk 1).unpure
   replace X := SH.pure_ h196 X
   replace X := X.pk 1
   replace X := obj106_mk (x := y191) X
   cases G
   have ht := T108_ _ rfl
   subst ht
   replace G := hR108
   replace G : some (.inr y191) = some y := G
   cases G
   exact hQp _ rfl _ _ J.defers X
  replace G := sum_l G
  refine x_callw' (vs := #[.pointer (some ⟨g0, 0, none⟩), .bool true]) en59 J (RetS.lf (F_column_Reader_Check (L := L) y119.2 true g0 h192 (qz + 0) hZ X)) (fun v U w hR J => ?_) rfl
  obtain ⟨rfl, X⟩ := hR
  obtain ⟨A197, n198, c199, X⟩ := obj106_open X
  obtain ⟨h200, X⟩ := (X.pk 1).unpure
  refine wpList_nil ?_
  exact hj1 y191.f0 G A197 n198 c199 h200 U w (J.sub _ rfl) X
 replace G := iff' hb190 G
 refine x_on' hb190 J ?_ rfl
 refine x_m J rfl fun U J => ?_
 refine x_on' hb190 J ?_ rfl
 refine x_v J (r_eqI rfl (J.ev rfl) (J.ev rfl)) rfl fun U J => ?_
 refine x_on' hb190 J ?_ rfl
 refine x_m J rfl fun U J => ?_
 refine bcase (b := x114 == 9) (fun hb201 => ?_) fun hb201 => ?_
 ·replace G := ift hb201 G
  refine x_on' hb201 J ?_ rfl
  refine x_m J rfl fun U J => ?_
  refine x_on' hb201 J ?_ rfl
  refine x_v J (r_ltI rfl (J.ev rfl) (J.ev rfl)) rfl fun U J => ?_
  refine x_on' hb190 J ?_ rfl
  refine x_pickt' hb201 J (fun U J => ?_) rfl
  refine x_pickf' hb190 J (fun U J => ?_) rfl
  replace X := SH.pure_ h128 X
  replace X := X.pk 1
  replace X := obj106_mk (x := y119.2) X
  obtain ⟨y202, h203, G⟩ := bnd G
  rcases y202 with y202 | y202
  rotate_left
  ·replace G := sum_r G
   refine x_callp' (vs := #[.pointer (some ⟨g0, 0, none⟩), .bool (decide (y119.1 < 2))]) en59 J (RetS.rf (F_column_Reader_Check (L := L) y119.2 (decide (y119.1 < 2)) g0 h203 (qz + 0) hZ X)) (fun w hR => ?_) rfl
   replace X := hR
   obtain ⟨A204, n205, c206, X⟩ := obj106_open X
   obtain ⟨h207, X⟩ := (X.pk 1).unpure
   replace X := SH.pure_ h207 X
   replace X := X.pk 1
   replace X := obj106_mk (x := y202) X
   cases G
   have ht := T108_ _ rfl
   subst ht
   replace G := hR108
   replace G : some (.inr y202) = some y := G
   cases G
   exact hQp _ rfl _ _ J.defers X
  replace G := sum_l G
  refine x_callw' (vs := #[.pointer (some ⟨g0, 0, none⟩), .bool (decide (y119.1 < 2))]) en59 J (RetS.lf (F_column_Reader_Check (L := L) y119.2 (decide (y119.1 < 2)) g0 h203 (qz + 0) hZ X)) (fun v U w hR J => ?_) rfl
  obtain ⟨rfl, X⟩ := hR
  obtain ⟨A208, n209, c210, X⟩ := obj106_open X
  obtain ⟨h211, X⟩ := (X.pk 1).unpure
  refine wpList_nil ?_
  exact hj1 y202.f0 G A208 n209 c210 h211 U w (J.sub _ rfl) X
 replace G := iff' hb201 G
 refine xO 2 hb201 J rfl fun U J => ?_
 refine x_on' hb190 J ?_ rfl
 refine x_pickf' hb201 J (fun U J => ?_) rfl
 refine x_pickf' hb190 J (fun U J => ?_) rfl
 replace X := SH.pure_ h128 X
 replace X := X.pk 1
 replace X := obj106_mk (x := y119.2) X
 obtain ⟨y212, h213, G⟩ := bnd G
 rcases y212 with y212 | y212
 rotate_left
 ·replace G := sum_r G
  refine x_callp' (vs := #[.pointer (some ⟨g0, 0, none⟩), .bool false]) en59 J (RetS.rf (F_column_Reader_Check (L := L) y119.2 false g0 h213 (qz + 0) hZ X)) (fun w hR => ?_) rfl
  replace X := hR
  obtain ⟨A214, n215, c216, X⟩ := obj106_open X
  obtain ⟨h217, X⟩ := (X.pk 1).unpure
  replace X := SH.pure_ h217 X
  replace X := X.pk 1
  replace X := obj106_mk (x := y212) X
  cases G
  have ht := T108_ _ rfl
  subst ht
  replace G := hR108
  replace G : some (.inr y212) = some y := G
  cases G
  exact hQp _ rfl _ _ J.defers X
 replace G := sum_l G
 refine x_callw' (vs := #[.pointer (some ⟨g0, 0, none⟩), .bool false]) en59 J (RetS.lf (F_column_Reader_Check (L := L) y119.2 false g0 h213 (qz + 0) hZ X)) (fun v U w hR J => ?_) rfl
 obtain ⟨rfl, X⟩ := hR
 obtain ⟨A218, n219, c220, X⟩ := obj106_open X
 obtain ⟨h221, X⟩ := (X.pk 1).unpure
 refine wpList_nil ?_
 exact hj1 y212.f0 G A218 n219 c220 h221 U w (J.sub _ rfl) X
theorem F_column_Reader_Int {r : World} {L : List HP} {w : World} {Z : Nat → Prop} {wz : World} (a0 : S106) (g0 : Nat) {y : ((Int × S106) ⊕ (S106))} (G : column_Reader_Int a0 = some y) (qz : Nat) (hZ : L[qz]? = some (zone Z wz)) (X : SH r (obj106 Z wz g0 a0 :: L) w) :
  RetS Tryd.prog 60 #[.pointer (some ⟨g0, 0, none⟩)] w badC y (fun y v w' => v = .int .i64 y.1 ∧ SH r (obj106 Z wz g0 y.2 :: L) w') (fun y w' => SH r (obj106 Z wz g0 y :: L) w') := by
 refine enterS Tryd.func60 rfl Tryd.ntmps60 [(0, (pP g0))] rfl (by simp) ?_
 intro U J Qf hQ hQn hQp
 unfold column_Reader_Int at G
 obtain ⟨A100, n101, c102, X⟩ := obj106_open X
 obtain ⟨h103, X⟩ := (X.pk 1).unpure
 refine ws fun K104 hK104 => ?_
 refine x_m J rfl fun U J => ?_
 refine wn (hK104 _ _ ?_)
 refine ws fun K105 hK105 => ?_
 refine x_m J rfl fun U J => ?_
 replace X := SH.pure_ h103 X
 replace X := X.pk 1
 replace X := obj106_mk (x := a0) X
 obtain ⟨y106, h107, G⟩ := bnd G
 rcases y106 with y106 | y106
 rotate_left
 ·replace G := sum_r G
  refine x_callp' (vs := #[.pointer (some ⟨g0, 0, none⟩), .int .u64 18446744073709551615]) en58 J (RetS.rf (F_column_Reader_Uint (L := L) a0 18446744073709551615 g0 h107 (qz + 0) hZ X)) (fun w hR => ?_) rfl
  replace X := hR
  obtain ⟨A108, n109, c110, X⟩ := obj106_open X
  obtain ⟨h111, X⟩ := (X.pk 1).unpure
  replace X := SH.pure_ h111 X
  replace X := X.pk 1
  replace X := obj106_mk (x := y106) X
  cases G
  exact hQp _ rfl _ _ J.defers X
 replace G := sum_l G
 refine x_callw' (vs := #[.pointer (some ⟨g0, 0, none⟩), .int .u64 18446744073709551615]) en58 J (RetS.lf (F_column_Reader_Uint (L := L) a0 18446744073709551615 g0 h107 (qz + 0) hZ X)) (fun v U w hR J => ?_) rfl
 obtain ⟨rfl, X⟩ := hR
 obtain ⟨A112, n113, c114, X⟩ := obj106_open X
 obtain ⟨h115, X⟩ := (X.pk 1).unpure
 refine x_m J rfl fun U J => ?_
 refine wn (hK105 _ _ ?_)
 refine ws fun K116 hK116 => ?_
 refine x_m J rfl fun U J => ?_
 obtain ⟨x117, h118, G⟩ := ltt_ G
 refine x_v (v := .int .u64 x117) J (rv_i h118 (r_shr rfl (J.ev rfl) (J.ev rfl) (by decide))) rfl fun U J => ?_
 obtain ⟨x119, h120, G⟩ := ltt_ G
 refine x_v (v := .int .i64 x119) J (rv_i h120 (r_convI uu31 uu2 rfl (J.ev rfl))) rfl fun U J => ?_
 refine x_m J rfl fun U J => ?_
 obtain ⟨x121, h122, G⟩ := ltt_ G
 refine x_v (v := .int .u64 x121) J (rv_i h122 (r_and rfl (J.ev rfl) (J.ev rfl))) rfl fun U J => ?_
 obtain ⟨x123, h124, G⟩ := ltt_ G
 refine x_v (v := .int .i64 x123) J (rv_i h124 (r_convI uu31 uu2 rfl (J.ev rfl))) rfl fun U J => ?_
 refine x_v J (r_neg rfl (J.ev rfl)) rfl fun U J => ?_
 obtain ⟨x125, h126, G⟩ := ltt_ G
 refine x_v (v := .int .i64 x125) J (rv_i h126 (r_xor rfl (J.ev rfl) (J.ev rfl))) rfl fun U J => ?_
 refine x_m J rfl fun U J => ?_
 refine wn (hK116 _ _ ?_)
 refine wp_ret ?_
 replace X := SH.pure_ h115 X
 replace X := X.pk 1
 replace X := obj106_mk (x := y106.2) X
 cases G
 refine hQ _ rfl _ _ ?_
 refine lv Tryd.results60 J rfl ?_
 exact ⟨rfl, X⟩
theorem F_column_Reader_Text {r : World} {L : List HP} {w : World} {Z : Nat → Prop} {wz : World} (a0 : S106) (a1 : Int) (g0 : Nat) {y : (((List UInt8) × S106) ⊕ (S106))} (G : column_Reader_Text a0 a1 = some y) (qz : Nat) (hZ : L[qz]? = some (zone Z wz)) (X : SH r (obj106 Z wz g0 a0 :: L) w) :
  RetS Tryd.prog 61 #[.pointer (some ⟨g0, 0, none⟩), .int .i64 a1] w badC y (fun y v w' => v = str y.1 ∧ SH r (obj106 Z wz g0 y.2 :: L) w') (fun y w' => SH r (obj106 Z wz g0 y :: L) w') := by
 refine enterS Tryd.func61 rfl Tryd.ntmps61 [(0, (pP g0)), (1, .int .i64 a1)] rfl (by simp) ?_
 intro U J Qf hQ hQn hQp
 unfold column_Reader_Text at G
 obtain ⟨A100, n101, c102, X⟩ := obj106_open X
 obtain ⟨h103, X⟩ := (X.pk 1).unpure
 refine ws fun K104 hK104 => ?_
 refine x_m J rfl fun U J => ?_
 refine wn (hK104 _ _ ?_)
 refine ws fun K105 hK105 => ?_
 refine x_m J rfl fun U J => ?_
 refine x_m J rfl fun U J => ?_
 obtain ⟨x106, h107, G⟩ := ltt_ G
 refine x_v (v := .int .u64 x106) J (rv_i h107 (r_convI uu3 uu31 rfl (J.ev rfl))) rfl fun U J => ?_
 replace X := SH.pure_ h103 X
 replace X := X.pk 1
 replace X := obj106_mk (x := a0) X
 obtain ⟨y108, h109, G⟩ := bnd G
 rcases y108 with y108 | y108
 rotate_left
 ·replace G := sum_r G
  refine x_callp' (vs := #[.pointer (some ⟨g0, 0, none⟩), .int .u64 x106]) en58 J (RetS.rf (F_column_Reader_Uint (L := L) a0 x106 g0 h109 (qz + 0) hZ X)) (fun w hR => ?_) rfl
  replace X := hR
  obtain ⟨A110, n111, c112, X⟩ := obj106_open X
  obtain ⟨h113, X⟩ := (X.pk 1).unpure
  replace X := SH.pure_ h113 X
  replace X := X.pk 1
  replace X := obj106_mk (x := y108) X
  cases G
  exact hQp _ rfl _ _ J.defers X
 replace G := sum_l G
 refine x_callw' (vs := #[.pointer (some ⟨g0, 0, none⟩), .int .u64 x106]) en58 J (RetS.lf (F_column_Reader_Uint (L := L) a0 x106 g0 h109 (qz + 0) hZ X)) (fun v U w hR J => ?_) rfl
 obtain ⟨rfl, X⟩ := hR
 obtain ⟨A114, n115, c116, X⟩ := obj106_open X
 obtain ⟨h117, X⟩ := (X.pk 1).unpure
 refine x_m J rfl fun U J => ?_
 refine wn (hK105 _ _ ?_)
 refine ws fun K118 hK118 => ?_
 refine x_m J rfl fun U J => ?_
 refine x_m J rfl fun U J => ?_
 refine x_m J rfl fun U J => ?_
 refine x_v J (r_nilCheck rfl (J.ev rfl)) rfl fun U J => ?_
 refine x_fab' fa106_0 J (fun U J => ?_) rfl
 refine x_ld' uu24 (X.cell 0 rfl 0 _ rfl) J (fun U J => ?_) rfl
 refine x_len' uu24 (X.rdl 1 (h117.rdl qz hZ) rfl).2.1 J (fun U J => ?_) rfl
 obtain ⟨x119, h120, G⟩ := ltt_ G
 refine x_v (v := .int .u64 x119) J (rv_i h120 (r_convI uu3 uu31 rfl (J.ev rfl))) rfl fun U J => ?_
 refine x_v J (r_leI rfl (J.ev rfl) (J.ev rfl)) rfl fun U J => ?_
 replace X := SH.pure_ h117 X
 replace X := X.pk 1
 replace X := obj106_mk (x := y108.2) X
 obtain ⟨y121, h122, G⟩ := bnd G
 rcases y121 with y121 | y121
 rotate_left
 ·replace G := sum_r G
  refine x_callp' (vs := #[.pointer (some ⟨g0, 0, none⟩), .bool (decide (y108.1 ≤ x119))]) en59 J (RetS.rf (F_column_Reader_Check (L := L) y108.2 (decide (y108.1 ≤ x119)) g0 h122 (qz + 0) hZ X)) (fun w hR => ?_) rfl
  replace X := hR
  obtain ⟨A123, n124, c125, X⟩ := obj106_open X
  obtain ⟨h126, X⟩ := (X.pk 1).unpure
  replace X := SH.pure_ h126 X
  replace X := X.pk 1
  replace X := obj106_mk (x := y121) X
  cases G
  exact hQp _ rfl _ _ J.defers X
 replace G := sum_l G
 refine x_callw' (vs := #[.pointer (some ⟨g0, 0, none⟩), .bool (decide (y108.1 ≤ x119))]) en59 J (RetS.lf (F_column_Reader_Check (L := L) y108.2 (decide (y108.1 ≤ x119)) g0 h122 (qz + 0) hZ X)) (fun v U w hR J => ?_) rfl
 obtain ⟨rfl, X⟩ := hR
 obtain ⟨A127, n128, c129, X⟩ := obj106_open X
 obtain ⟨h130, X⟩ := (X.pk 1).unpure
 refine wn (hK118 _ _ ?_)
 refine ws fun K131 hK131 => ?_
 refine x_m J rfl fun U J => ?_
 refine x_v J (r_nilCheck rfl (J.ev rfl)) rfl fun U J => ?_
 refine x_fab' fa106_0 J (fun U J => ?_) rfl
 refine x_ld' uu24 (X.cell 0 rfl 0 _ rfl) J (fun U J => ?_) rfl
 refine x_m J rfl fun U J => ?_
 obtain ⟨l132, h133, G⟩ := bnd G
 obtain ⟨A134, n135, c136, e137, h138⟩ := imm_hc h130 h133
 refine x_v (v := .slice A134 n135 c136) J (rv_e e137 (r_slice_h uu24 sz5 rfl (J.ev rfl) (J.ev rfl) (cutq (X.rdl 1 (h130.rdl qz hZ) rfl) h133).2.2.2.2.1 (cutq (X.rdl 1 (h130.rdl qz hZ) rfl) h133).2.2.1)) rfl fun U J => ?_
 refine x_b2s' uu24 uu5 uu9 (X.rdl 1 (h138.rdl qz hZ) rfl) J (fun U J => ?_) rfl
 refine x_m J rfl fun U J => ?_
 refine wn (hK131 _ _ ?_)
 refine ws fun K139 hK139 => ?_
 refine x_m J rfl fun U J => ?_
 refine x_m J rfl fun U J => ?_
 refine x_v J (r_nilCheck rfl (J.ev rfl)) rfl fun U J => ?_
 refine x_fab' fa106_0 J (fun U J => ?_) rfl
 refine x_ld' uu24 (X.cell 0 rfl 0 _ rfl) J (fun U J => ?_) rfl
 refine x_m J rfl fun U J => ?_
 obtain ⟨l140, h141, G⟩ := bnd G
 obtain ⟨A142, n143, c144, e145, h146⟩ := imm_lc h130 h141
 refine x_v (v := .slice A142 n143 c144) J (rv_e e145 (r_slice_l uu24 sz5 rfl (J.ev rfl) (J.ev rfl) (cutq (X.rdl 1 (h130.rdl qz hZ) rfl) h141).1 (cutq (X.rdl 1 (h130.rdl qz hZ) rfl) h141).2.2.2.2.2)) rfl fun U J => ?_
 refine x_v J (r_nilCheck rfl (J.ev rfl)) rfl fun U J => ?_
 refine x_fab' fa106_0 J (fun U J => ?_) rfl
 refine x_stb' 0 sz24 J X rfl (fun  U w X J => ?_) rfl
 refine wn (hK139 _ _ ?_)
 refine ws fun K147 hK147 => ?_
 refine x_m J rfl fun U J => ?_
 refine x_m J rfl fun U J => ?_
 refine wn (hK147 _ _ ?_)
 refine wp_ret ?_
 replace X := SH.pure_ h146 X
 replace X := X.pk 1
 replace X := obj106_mk (x := (⟨l140⟩ : S106)) X
 cases G
 refine hQ _ rfl _ _ ?_
 refine lv Tryd.results61 J rfl ?_
 exact ⟨rfl, X⟩
theorem F_column_list_int64 {r : World} {L : List HP} {w : World} {Z : Nat → Prop} {wz : World} (a0 : Int) (a60 : S106) (g60 : Nat) {y : (((List Int) × S106) ⊕ (S106))} (G : column_list_int64 a0 a60 = some y) (qz : Nat) (hZ : L[qz]? = some (zone Z wz)) (X : SH r (obj106 Z wz g60 a60 :: L) w) :
  RetS Tryd.prog 92 #[.int .i64 a0, .func (.func 60) #[.pointer (some ⟨g60, 0, none⟩)] #[]] w badC y (fun y v w' => ∃ (B0 : Option Addr) (m0 : Nat) (d0 : Nat), v = .slice B0 m0 d0 ∧ SH r (own (kI .i64) 2 B0 m0 d0 y.1 :: obj106 Z wz g60 y.2 :: L) w') (fun y w' => SH r (obj106 Z wz g60 y :: L) w') := by
 refine enterS Tryd.func92 rfl Tryd.ntmps92 [(0, .int .i64 a0), (1, .func (.func 60) #[.pointer (some ⟨g60, 0, none⟩)] #[])] rfl (by simp) ?_
 intro U J Qf hQ hQn hQp
 unfold column_list_int64 at G
 obtain ⟨A100, n101, c102, X⟩ := obj106_open X
 obtain ⟨h103, X⟩ := (X.pk 1).unpure
 refine ws fun K104 hK104 => ?_
 refine x_m J rfl fun U J => ?_
 refine wn (hK104 _ _ ?_)
 refine ws fun K105 hK105 => ?_
 refine x_m J rfl fun U J => ?_
 refine wn (hK105 _ _ ?_)
 refine wp_seq_k fun K106 hK106 => ?_
 refine ws fun K107 hK107 => ?_
 refine x_m J rfl fun U J => ?_
 refine x_m J rfl fun U J => ?_
 refine wn (hK107 _ _ ?_)
 refine wp_block_k fun Kx108 hKx108 => ?_
 have hb1 : ∀ (l109 : (List Int)) (l110 : (List Int)), column_list_int64_b1 l109 l110 = some y → ∀ (A111 : Option Addr) (n112 : Nat) (c113 : Nat) (A114 : Option Addr) (n115 : Nat) (c116 : Nat) (h117 : Imm Z wz (kI .u8) A111 n112 c113 l109) (U : Act) (w : World), FR 16 [] U [(1, .func (.func 60) #[.pointer (some ⟨g60, 0, none⟩)] #[]), (5, .slice A114 n115 c116)] → SH r (blk g60 106 [.slice A111 n112 c113] :: own (kI .i64) 2 A114 n115 c116 l110 :: L) w → Kx108 U w := by
  intro l109 l110 G A111 n112 c113 A114 n115 c116 h117 U w J X
  unfold column_list_int64_b1 at G
  refine hKx108 _ _ ?_
  refine hK106 _ _ ?_
  refine ws fun K118 hK118 => ?_
  refine x_m J rfl fun U J => ?_
  refine x_m J rfl fun U J => ?_
  refine wn (hK118 _ _ ?_)
  refine wp_ret ?_
  replace X := SH.pure_ h117 X
  replace X := X.pk 1
  replace X := obj106_mk (x := (⟨l109⟩ : S106)) X
  replace X := X.pk 1
  cases G
  refine hQ _ rfl _ _ ?_
  refine lv Tryd.results92 J rfl ?_
  exact ⟨A114, n115, c116, rfl, X⟩
 obtain ⟨t119, hl119, G⟩ := bnd G
 have hR119 := G
 have hx119_0 : ∀ (l120 : (List Int)) (l121 : (List Int)), (.inl (l120, l121)) = t119 → ∀ (A122 : Option Addr) (n123 : Nat) (c124 : Nat) (A125 : Option Addr) (n126 : Nat) (c119 : Nat) (h127 : Imm Z wz (kI .u8) A122 n123 c124 l120) (U : Act) (w : World), FR 16 [] U [(1, .func (.func 60) #[.pointer (some ⟨g60, 0, none⟩)] #[]), (5, .slice A125 n126 c119)] → SH r (blk g60 106 [.slice A122 n123 c124] :: own (kI .i64) 2 A125 n126 c119 l121 :: L) w → Kx108 U w := by
  intro l120 l121 ht A122 n123 c124 A125 n126 c119 h127 U w J X
  subst ht
  replace G : column_list_int64_x1_0 l120 l121 = some y := G
  unfold column_list_int64_x1_0 at G
  exact hb1 l120 l121 G A122 n123 c124 A125 n126 c119 h127 U w (J.sub _ rfl) X
 replace X := SH.nil_own (d := (kI .i64)) (e := 2) X
 replace X := X.pk 1
 refine wp_loop_fn hl119 (fun s U w => ∃ (A128 : Option Addr) (n129 : Nat) (c130 : Nat) (A131 : Option Addr) (n132 : Nat) (c133 : Nat), Imm Z wz (kI .u8) A128 n129 c130 s.1 ∧ FR 16 [] U [(1, .func (.func 60) #[.pointer (some ⟨g60, 0, none⟩)] #[]), (5, .slice A131 n132 c133), (6, .int .i64 a0), (7, .int .i64 s.2.2)] ∧ SH r (blk g60 106 [.slice A128 n129 c130] :: own (kI .i64) 2 A131 n132 c133 s.2.1 :: L) w) ⟨A100, n101, c102, none, 0, 0, h103, J.sub _ rfl, X⟩ ?_
 intro N119 s119 o119 G N119_ T119_ U w hLab
 obtain ⟨l134, l135, x136⟩ := s119
 replace G : column_list_int64_l1 a0 l134 l135 x136 = some o119 := G
 unfold column_list_int64_l1 at G
 try dsimp only at hLab
 obtain ⟨A128, n129, c130, A131, n132, c133, h137, J, X⟩ := hLab
 refine ws fun K138 hK138 => ?_
 refine x_v J (r_ltI rfl (J.ev rfl) (J.ev rfl)) rfl fun U J => ?_
 refine wn (hK138 _ _ ?_)
 refine wp_seq_k fun K139 hK139 => ?_
 refine c_if J rfl (fun hb140 => ?_) fun hb140 => ?_
 ·replace G := ift hb140 G
  refine wp_skip ?_
  refine hK139 _ _ ?_
  refine wp_seq_k fun K141 hK141 => ?_
  refine wp_block_k fun Kx142 hKx142 => ?_
  refine wp_reg ?_
  refine x_m J rfl fun U J => ?_
  refine x_m J rfl fun U J => ?_
  replace X := SH.pure_ h137 X
  replace X := X.pk 1
  replace X := obj106_mk (x := (⟨l134⟩ : S106)) X
  obtain ⟨y143, h144, G⟩ := bnd G
  rcases y143 with y143 | y143
  rotate_left
  ·replace G := sum_r G
   refine x_callp' (vs := #[]) en60 J (RetS.rf (F_column_Reader_Int (L := own (kI .i64) 2 A131 n132 c133 l135 :: L) (⟨l134⟩ : S106) g60 h144 (qz + 1) hZ X)) (fun w hR => ?_) rfl
   replace X := hR
   obtain ⟨A145, n146, c147, X⟩ := obj106_open X
   obtain ⟨h148, X⟩ := (X.pk 1).unpure
   replace X := SH.pure_ h148 X
   replace X := X.pk 1
   replace X := obj106_mk (x := y143) X
   replace X := X.drop 1
   cases G
   have ht := T119_ _ rfl
   subst ht
   replace G := hR119
   replace G : some (.inr y143) = some y := G
   cases G
   exact hQp _ rfl _ _ J.defers X
  replace G := sum_l G
  refine x_callw' (vs := #[]) en60 J (RetS.lf (F_column_Reader_Int (L := own (kI .i64) 2 A131 n132 c133 l135 :: L) (⟨l134⟩ : S106) g60 h144 (qz + 1) hZ X)) (fun v U w hR J => ?_) rfl
  obtain ⟨rfl, X⟩ := hR
  obtain ⟨A149, n150, c151, X⟩ := obj106_open X
  obtain ⟨h152, X⟩ := (X.pk 1).unpure
  refine x_bsl' (d := (kI .i64)) (e := 2) (ps := #[(0, .int .i64 y143.1)]) (cells := [.int .i64 y143.1]) (xs := [y143.1]) (fun w => by kernel_rfl) rfl ⟨[.int .i64 y143.1], _, rfl, rfl, rfl⟩ J X (fun g153 U w X J => ?_) rfl
  obtain ⟨h154, G⟩ := chk_some G
  have hr := X.rd 0 rfl
  refine x_app' 2 inf2 uu90 J X hr.1 hr.2.1 h154 rfl (fun A155 n156 c157 U w X J => ?_) rfl
  refine x_m J rfl fun U J => ?_
  refine wpList_nil ?_
  refine hKx142 _ _ ?_
  refine hK141 _ _ ?_
  refine wp_reg ?_
  obtain ⟨x158, h159, G⟩ := ltt_ G
  refine x_v (v := .int .i64 x158) J (rv_i h159 (r_add rfl (J.ev rfl) (J.ev rfl))) rfl fun U J => ?_
  refine x_m J rfl fun U J => ?_
  refine wpList_nil ?_
  replace X := X.drop 1 |>.pk 1
  cases G
  exact ⟨_, N119_ _ rfl, A149, n150, c151, A155, n156, c157, h152, J.sub _ rfl, X⟩
 replace G := iff' hb140 G
 refine wp_exit ?_
 cases G
 exact hx119_0 l134 l135 (T119_ _ rfl) A128 n129 c130 A131 n132 c133 h137 U w (J.sub _ rfl) X
theorem F_column_unpack {r : World} {L : List HP} {w : World} {Z : Nat → Prop} {wz : World} (a0 : S106) (a1 : Int) (g0 : Nat) {y : (((List Int) × S106) ⊕ (S106))} (G : column_unpack a0 a1 = some y) (qz : Nat) (hZ : L[qz]? = some (zone Z wz)) (X : SH r (obj106 Z wz g0 a0 :: L) w) :
  RetS Tryd.prog 93 #[.pointer (some ⟨g0, 0, none⟩), .int .i64 a1] w badC y (fun y v w' => ∃ (B0 : Option Addr) (m0 : Nat) (d0 : Nat), v = .slice B0 m0 d0 ∧ SH r (own (kI .i64) 2 B0 m0 d0 y.1 :: obj106 Z wz g0 y.2 :: L) w') (fun y w' => SH r (obj106 Z wz g0 y :: L) w') := by
 refine enterS Tryd.func93 rfl Tryd.ntmps93 [(0, (pP g0)), (1, .int .i64 a1)] rfl (by simp) ?_
 intro U J Qf hQ hQn hQp
 unfold column_unpack at G
 obtain ⟨A100, n101, c102, X⟩ := obj106_open X
 obtain ⟨h103, X⟩ := (X.pk 1).unpure
 refine ws fun K104 hK104 => ?_
 refine x_m J rfl fun U J => ?_
 refine wn (hK104 _ _ ?_)
 refine ws fun K105 hK105 => ?_
 refine x_m J rfl fun U J => ?_
 replace X := SH.pure_ h103 X
 replace X := X.pk 1
 replace X := obj106_mk (x := a0) X
 obtain ⟨y106, h107, G⟩ := bnd G
 rcases y106 with y106 | y106
 rotate_left
 ·replace G := sum_r G
  refine x_callp' (vs := #[.pointer (some ⟨g0, 0, none⟩)]) en60 J (RetS.rf (F_column_Reader_Int (L := L) a0 g0 h107 (qz + 0) hZ X)) (fun w hR => ?_) rfl
  replace X := hR
  obtain ⟨A108, n109, c110, X⟩ := obj106_open X
  obtain ⟨h111, X⟩ := (X.pk 1).unpure
  replace X := SH.pure_ h111 X
  replace X := X.pk 1
  replace X := obj106_mk (x := y106) X
  cases G
  exact hQp _ rfl _ _ J.defers X
 replace G := sum_l G
 refine x_callw' (vs := #[.pointer (some ⟨g0, 0, none⟩)]) en60 J (RetS.lf (F_column_Reader_Int (L := L) a0 g0 h107 (qz + 0) hZ X)) (fun v U w hR J => ?_) rfl
 obtain ⟨rfl, X⟩ := hR
 obtain ⟨A112, n113, c114, X⟩ := obj106_open X
 obtain ⟨h115, X⟩ := (X.pk 1).unpure
 refine x_m J rfl fun U J => ?_
 replace X := SH.pure_ h115 X
 replace X := X.pk 1
 replace X := obj106_mk (x := y106.2) X
 obtain ⟨y116, h117, G⟩ := bnd G
 rcases y116 with y116 | y116
 rotate_left
 ·replace G := sum_r G
  refine x_callp' (vs := #[.pointer (some ⟨g0, 0, none⟩)]) en76 J (RetS.rf (F_column_Reader_Byte (L := L) y106.2 g0 h117 (qz + 0) hZ X)) (fun w hR => ?_) rfl
  replace X := hR
  obtain ⟨A118, n119, c120, X⟩ := obj106_open X
  obtain ⟨h121, X⟩ := (X.pk 1).unpure
  replace X := SH.pure_ h121 X
  replace X := X.pk 1
  replace X := obj106_mk (x := y116) X
  cases G
  exact hQp _ rfl _ _ J.defers X
 replace G := sum_l G
 refine x_callw' (vs := #[.pointer (some ⟨g0, 0, none⟩)]) en76 J (RetS.lf (F_column_Reader_Byte (L := L) y106.2 g0 h117 (qz + 0) hZ X)) (fun v U w hR J => ?_) rfl
 obtain ⟨rfl, X⟩ := hR
 obtain ⟨A122, n123, c124, X⟩ := obj106_open X
 obtain ⟨h125, X⟩ := (X.pk 1).unpure
 obtain ⟨x126, h127, G⟩ := ltt_ G
 refine x_v (v := .int .i64 x126) J (rv_i h127 (r_convI uu5 uu3 rfl (J.ev rfl))) rfl fun U J => ?_
 refine x_m J rfl fun U J => ?_
 refine x_m J rfl fun U J => ?_
 refine wn (hK105 _ _ ?_)
 refine wp_seq_k fun K128 hK128 => ?_
 have hj1 : ∀ (l129 : (List Int)), column_unpack_j1 a1 y106 x126 l129 = some y → ∀ (A130 : Option Addr) (n131 : Nat) (c132 : Nat) (h133 : Imm Z wz (kI .u8) A130 n131 c132 l129) (U : Act) (w : World), FR 98 [] U [(0, (pP g0)), (1, .int .i64 a1), (5, .int .i64 y106.1), (6, .int .i64 x126)] → SH r (blk g0 106 [.slice A130 n131 c132] :: L) w → K128 U w := by
  intro l129 G A130 n131 c132 h133 U w J X
  unfold column_unpack_j1 at G
  refine hK128 _ _ ?_
  refine ws fun K134 hK134 => ?_
  refine x_m J rfl fun U J => ?_
  obtain ⟨h135, G⟩ := chk_some G
  refine x_mks' (d := (kI .i64)) (bytes := 8) 0 inf2 rfl uu90 h135 J X (fun g136 U w X J => ?_) rfl
  refine x_m J rfl fun U J => ?_
  refine wn (hK134 _ _ ?_)
  refine wp_seq_k fun K137 hK137 => ?_
  refine ws fun K138 hK138 => ?_
  refine x_m J rfl fun U J => ?_
  refine x_v J (r_nilCheck rfl (J.ev rfl)) rfl fun U J => ?_
  refine x_fab' fa106_0 J (fun U J => ?_) rfl
  refine x_ld' uu24 (X.cell 1 rfl 0 _ rfl) J (fun U J => ?_) rfl
  refine x_len' uu24 (X.rdl 2 (h133.rdl qz hZ) rfl).2.1 J (fun U J => ?_) rfl
  obtain ⟨x139, h140, G⟩ := ltt_ G
  refine x_v (v := .int .i64 x139) J (rv_i h140 (r_mul rfl (J.ev rfl) (J.ev rfl))) rfl fun U J => ?_
  refine x_m J rfl fun U J => ?_
  refine wn (hK138 _ _ ?_)
  refine wp_block_k fun Kx141 hKx141 => ?_
  have hb1 : ∀ (l142 : (List Int)) (l143 : (List Int)), column_unpack_b1 y106 l142 l143 = some y → ∀ (A144 : Option Addr) (n145 : Nat) (c146 : Nat) (h147 : Imm Z wz (kI .u8) A144 n145 c146 l142) (U : Act) (w : World), FR 98 [] U [(0, (pP g0)), (5, .int .i64 y106.1), (7, .slice (some ⟨g136, 0, none⟩) a1.toNat a1.toNat)] → SH r (blk g0 106 [.slice A144 n145 c146] :: own (kI .i64) 2 (some ⟨g136, 0, none⟩) a1.toNat a1.toNat l143 :: L) w → Kx141 U w := by
   intro l142 l143 G A144 n145 c146 h147 U w J X
   unfold column_unpack_b1 at G
   refine hKx141 _ _ ?_
   refine hK137 _ _ ?_
   refine wp_seq_k fun K148 hK148 => ?_
   refine ws fun K149 hK149 => ?_
   refine x_m J rfl fun U J => ?_
   refine x_len' uu90 (X.rd 1 rfl).2.1 J (fun U J => ?_) rfl
   refine x_m J rfl fun U J => ?_
   refine wn (hK149 _ _ ?_)
   refine wp_block_k fun Kx150 hKx150 => ?_
   have hb2 : ∀ (l151 : (List Int)), column_unpack_b2 l151 = some y → ∀ (U : Act) (w : World), FR 98 [] U [(0, (pP g0)), (7, .slice (some ⟨g136, 0, none⟩) a1.toNat a1.toNat)] → SH r (blk g0 106 [.slice A144 n145 c146] :: own (kI .i64) 2 (some ⟨g136, 0, none⟩) a1.toNat a1.toNat l151 :: L) w → Kx150 U w := by
    intro l151 G U w J X
    unfold column_unpack_b2 at G
    refine hKx150 _ _ ?_
    refine hK148 _ _ ?_
    refine ws fun K152 hK152 => ?_
    refine x_m J rfl fun U J => ?_
    refine x_v J (r_nilCheck rfl (J.ev rfl)) rfl fun U J => ?_
    refine x_fab' fa106_0 J (fun U J => ?_) rfl
    refine x_stb' 0 sz24 J X rfl (fun  U w X J => ?_) rfl
    refine wn (hK152 _ _ ?_)
    refine ws fun K153 hK153 => ?_
    refine x_m J rfl fun U J => ?_
    refine x_m J rfl fun U J => ?_
    refine wn (hK153 _ _ ?_)
    refine wp_ret ?_
    replace X := SH.pure_ (Imm.nil : Imm Z wz (kI .u8) none 0 0 []) X
    replace X := X.pk 1
    replace X := obj106_mk (x := (⟨[]⟩ : S106)) X
    replace X := X.pk 1
    cases G
    refine hQ _ rfl _ _ ?_
    refine lv Tryd.results93 J rfl ?_
    exact ⟨some ⟨g136, 0, none⟩, a1.toNat, a1.toNat, rfl, X⟩
   obtain ⟨t154, hl154, G⟩ := bnd G
   have hx154_2 : ∀ (l154 : (List Int)), (l154) = t154 → ∀ (U : Act) (w : World), FR 98 [] U [(0, (pP g0)), (7, .slice (some ⟨g136, 0, none⟩) a1.toNat a1.toNat)] → SH r (blk g0 106 [.slice A144 n145 c146] :: own (kI .i64) 2 (some ⟨g136, 0, none⟩) a1.toNat a1.toNat l154 :: L) w → Kx150 U w := by
    intro l154 ht U w J X
    subst ht
    replace G : column_unpack_x1_2 l154 = some y := G
    unfold column_unpack_x1_2 at G
    exact hb2 l154 G U w (J.sub _ rfl) X
   refine wp_loop_fn hl154 (fun s U w => FR 98 [] U [(0, (pP g0)), (5, .int .i64 y106.1), (7, .slice (some ⟨g136, 0, none⟩) a1.toNat a1.toNat), (82, .int .i64 (l143.length : Int)), (83, .int .i64 s.2)] ∧ SH r (blk g0 106 [.slice A144 n145 c146] :: own (kI .i64) 2 (some ⟨g136, 0, none⟩) a1.toNat a1.toNat s.1 :: L) w) ⟨J.sub _ rfl, X⟩ ?_
   intro N154 s154 o154 G N154_ T154_ U w hLab
   obtain ⟨l155, x156⟩ := s154
   replace G : column_unpack_l1 y106 l143 l155 x156 = some o154 := G
   unfold column_unpack_l1 at G
   try dsimp only at hLab
   obtain ⟨J, X⟩ := hLab
   refine ws fun K157 hK157 => ?_
   refine x_v J (r_ltI rfl (J.ev rfl) (J.ev rfl)) rfl fun U J => ?_
   refine wn (hK157 _ _ ?_)
   refine wp_seq_k fun K158 hK158 => ?_
   refine c_if J rfl (fun hb159 => ?_) fun hb159 => ?_
   ·replace G := ift hb159 G
    refine wp_skip ?_
    refine hK158 _ _ ?_
    refine wp_seq_k fun K160 hK160 => ?_
    refine wp_block_k fun Kx161 hKx161 => ?_
    refine ws fun K162 hK162 => ?_
    refine x_m J rfl fun U J => ?_
    refine x_m J rfl fun U J => ?_
    refine wn (hK162 _ _ ?_)
    refine wp_reg ?_
    refine x_m J rfl fun U J => ?_
    refine x_m J rfl fun U J => ?_
    obtain ⟨x163, h164, G⟩ := bnd G
    refine x_ia' uu90 sz2 (X.rd 1 rfl) h164 J (fun U J => ?_) rfl
    obtain ⟨cs, hV, hc165⟩ := el (X.rd 1 rfl) h164
    obtain rfl := hV
    refine x_ld' uu2 (hc165 0 _ rfl) J (fun U J => ?_) rfl
    refine x_m J rfl fun U J => ?_
    obtain ⟨x166, h167, G⟩ := ltt_ G
    refine x_v (v := .int .i64 x166) J (rv_i h167 (r_add rfl (J.ev rfl) (J.ev rfl))) rfl fun U J => ?_
    refine x_ia' uu90 sz2 (X.rd 1 rfl) h164 J (fun U J => ?_) rfl
    refine x_sto (z' := x166) (off := 0) (vs := [.int .i64 x166]) 1 sz2 J X rfl (at_some h164).2.2 (fun c h => by cases h; rfl) (fun  U w X J => ?_) rfl rfl rfl rfl rfl rfl rfl rfl
    refine wpList_nil ?_
    refine hKx161 _ _ ?_
    refine hK160 _ _ ?_
    refine wp_reg ?_
    obtain ⟨x168, h169, G⟩ := ltt_ G
    refine x_v (v := .int .i64 x168) J (rv_i h169 (r_add rfl (J.ev rfl) (J.ev rfl))) rfl fun U J => ?_
    refine x_m J rfl fun U J => ?_
    refine wpList_nil ?_
    replace X := X.pk 1
    cases G
    exact ⟨_, N154_ _ rfl, J.sub _ rfl, X⟩
   replace G := iff' hb159 G
   refine wp_exit ?_
   cases G
   exact hx154_2 l155 (T154_ _ rfl) U w (J.sub _ rfl) X
  obtain ⟨t170, hl170, G⟩ := bnd G
  have hR170 := G
  have hx170_0 : ∀ (l171 : (List Int)) (l170 : (List Int)), (.inl (l171, l170)) = t170 → ∀ (A172 : Option Addr) (n173 : Nat) (c174 : Nat) (h175 : Imm Z wz (kI .u8) A172 n173 c174 l171) (U : Act) (w : World), FR 98 [] U [(0, (pP g0)), (5, .int .i64 y106.1), (7, .slice (some ⟨g136, 0, none⟩) a1.toNat a1.toNat)] → SH r (blk g0 106 [.slice A172 n173 c174] :: own (kI .i64) 2 (some ⟨g136, 0, none⟩) a1.toNat a1.toNat l170 :: L) w → Kx141 U w := by
   intro l171 l170 ht A172 n173 c174 h175 U w J X
   subst ht
   replace G : column_unpack_x2_0 y106 l171 l170 = some y := G
   unfold column_unpack_x2_0 at G
   exact hb1 l171 l170 G A172 n173 c174 h175 U w (J.sub _ rfl) X
  replace X := X.pk 1
  refine wp_loop_fn hl170 (fun s U w => ∃ (A176 : Option Addr) (n177 : Nat) (c178 : Nat), Imm Z wz (kI .u8) A176 n177 c178 s.1 ∧ FR 98 [] U [(0, (pP g0)), (1, .int .i64 a1), (5, .int .i64 y106.1), (6, .int .i64 x126), (7, .slice (some ⟨g136, 0, none⟩) a1.toNat a1.toNat), (40, .int .i64 x139), (41, .int .i64 s.2.2)] ∧ SH r (blk g0 106 [.slice A176 n177 c178] :: own (kI .i64) 2 (some ⟨g136, 0, none⟩) a1.toNat a1.toNat s.2.1 :: L) w) ⟨A130, n131, c132, h133, J.sub _ rfl, X⟩ ?_
  intro N170 s170 o170 G N170_ T170_ U w hLab
  obtain ⟨l179, l180, x181⟩ := s170
  replace G : column_unpack_l2 a1 x126 x139 l179 l180 x181 = some o170 := G
  unfold column_unpack_l2 at G
  try dsimp only at hLab
  obtain ⟨A176, n177, c178, h182, J, X⟩ := hLab
  refine ws fun K183 hK183 => ?_
  refine x_v J (r_ltI rfl (J.ev rfl) (J.ev rfl)) rfl fun U J => ?_
  refine wn (hK183 _ _ ?_)
  refine wp_seq_k fun K184 hK184 => ?_
  refine c_if J rfl (fun hb185 => ?_) fun hb185 => ?_
  ·replace G := ift hb185 G
   refine wp_skip ?_
   refine hK184 _ _ ?_
   refine wp_seq_k fun K186 hK186 => ?_
   refine wp_block_k fun Kx187 hKx187 => ?_
   have hb3 : ∀ (l188 : (List Int)) (l189 : (List Int)), column_unpack_b3 x181 l188 l189 = some o170 → ∀ (A190 : Option Addr) (n191 : Nat) (c192 : Nat) (h193 : Imm Z wz (kI .u8) A190 n191 c192 l188) (U : Act) (w : World), FR 98 [] U [(0, (pP g0)), (1, .int .i64 a1), (5, .int .i64 y106.1), (6, .int .i64 x126), (7, .slice (some ⟨g136, 0, none⟩) a1.toNat a1.toNat), (40, .int .i64 x139), (41, .int .i64 x181)] → SH r (blk g0 106 [.slice A190 n191 c192] :: own (kI .i64) 2 (some ⟨g136, 0, none⟩) a1.toNat a1.toNat l189 :: L) w → Kx187 U w := by
    intro l188 l189 G A190 n191 c192 h193 U w J X
    unfold column_unpack_b3 at G
    refine hKx187 _ _ ?_
    refine hK186 _ _ ?_
    refine wp_reg ?_
    obtain ⟨x194, h195, G⟩ := ltt_ G
    refine x_v (v := .int .i64 x194) J (rv_i h195 (r_add rfl (J.ev rfl) (J.ev rfl))) rfl fun U J => ?_
    refine x_m J rfl fun U J => ?_
    refine wpList_nil ?_
    cases G
    exact ⟨_, N170_ _ rfl, A190, n191, c192, h193, J.sub _ rfl, X⟩
   refine ws fun K196 hK196 => ?_
   refine x_m J rfl fun U J => ?_
   refine x_m J rfl fun U J => ?_
   refine wn (hK196 _ _ ?_)
   refine ws fun K197 hK197 => ?_
   refine x_m J rfl fun U J => ?_
   refine x_v J (r_nilCheck rfl (J.ev rfl)) rfl fun U J => ?_
   refine x_fab' fa106_0 J (fun U J => ?_) rfl
   refine x_ld' uu24 (X.cell 0 rfl 0 _ rfl) J (fun U J => ?_) rfl
   refine x_m J rfl fun U J => ?_
   obtain ⟨x198, h199, G⟩ := ltt_ G
   refine x_v (v := .int .i64 x198) J (rv_i h199 (r_quo rfl (J.ev rfl) (J.ev rfl) (by decide))) rfl fun U J => ?_
   obtain ⟨x200, h201, G⟩ := bnd G
   refine x_ia' uu24 sz5 (X.rdl 2 (h182.rdl qz hZ) rfl) h201 J (fun U J => ?_) rfl
   obtain ⟨cs, hV, hc202⟩ := el (X.rdl 2 (h182.rdl qz hZ) rfl) h201
   obtain rfl := hV
   refine x_ld' uu5 (hc202 0 _ rfl) J (fun U J => ?_) rfl
   refine x_m J rfl fun U J => ?_
   obtain ⟨x203, h204, G⟩ := ltt_ G
   refine x_v (v := .int .i64 x203) J (rv_i h204 (r_rem rfl (J.ev rfl) (J.ev rfl) (by decide))) rfl fun U J => ?_
   obtain ⟨h205, G⟩ := chk_some G
   obtain ⟨x206, h207, G⟩ := ltt_ G
   refine x_v (v := .int .u8 x206) J (rv_i h207 (r_shr rfl (J.ev rfl) (J.ev rfl) h205)) rfl fun U J => ?_
   obtain ⟨x208, h209, G⟩ := ltt_ G
   refine x_v (v := .int .u64 x208) J (rv_i h209 (r_convI uu5 uu31 rfl (J.ev rfl))) rfl fun U J => ?_
   obtain ⟨x210, h211, G⟩ := ltt_ G
   refine x_v (v := .int .u64 x210) J (rv_i h211 (r_and rfl (J.ev rfl) (J.ev rfl))) rfl fun U J => ?_
   refine x_m J rfl fun U J => ?_
   refine wn (hK197 _ _ ?_)
   refine wp_seq_k fun K212 hK212 => ?_
   refine ws fun K213 hK213 => ?_
   refine x_m J rfl fun U J => ?_
   refine x_m J rfl fun U J => ?_
   refine x_m J rfl fun U J => ?_
   obtain ⟨x214, h215, G⟩ := ltt_ G
   refine x_v (v := .int .i64 x214) J (rv_i h215 (r_mul rfl (J.ev rfl) (J.ev rfl))) rfl fun U J => ?_
   refine x_v J (r_geI rfl (J.ev rfl) (J.ev rfl)) rfl fun U J => ?_
   refine wn (hK213 _ _ ?_)
   refine c_if J rfl (fun hb216 => ?_) fun hb216 => ?_
   ·replace G := ift hb216 G
    refine ws fun K217 hK217 => ?_
    refine x_m J rfl fun U J => ?_
    refine x_m J rfl fun U J => ?_
    refine x_v J (r_eqI rfl (J.ev rfl) (J.ev rfl)) rfl fun U J => ?_
    replace X := SH.pure_ h182 X
    replace X := X.pk 1
    replace X := obj106_mk (x := (⟨l179⟩ : S106)) X
    obtain ⟨y218, h219, G⟩ := bnd G
    rcases y218 with y218 | y218
    rotate_left
    ·replace G := sum_r G
     refine x_callp' (vs := #[.pointer (some ⟨g0, 0, none⟩), .bool (x210 == 0)]) en59 J (RetS.rf (F_column_Reader_Check (L := own (kI .i64) 2 (some ⟨g136, 0, none⟩) a1.toNat a1.toNat l180 :: L) (⟨l179⟩ : S106) (x210 == 0) g0 h219 (qz + 1) hZ X)) (fun w hR => ?_) rfl
     replace X := hR
     obtain ⟨A220, n221, c222, X⟩ := obj106_open X
     obtain ⟨h223, X⟩ := (X.pk 1).unpure
     replace X := SH.pure_ h223 X
     replace X := X.pk 1
     replace X := obj106_mk (x := y218) X
     replace X := X.drop 1
     cases G
     have ht := T170_ _ rfl
     subst ht
     replace G := hR170
     replace G : some (.inr y218) = some y := G
     cases G
     exact hQp _ rfl _ _ J.defers X
    replace G := sum_l G
    refine x_callw' (vs := #[.pointer (some ⟨g0, 0, none⟩), .bool (x210 == 0)]) en59 J (RetS.lf (F_column_Reader_Check (L := own (kI .i64) 2 (some ⟨g136, 0, none⟩) a1.toNat a1.toNat l180 :: L) (⟨l179⟩ : S106) (x210 == 0) g0 h219 (qz + 1) hZ X)) (fun v U w hR J => ?_) rfl
    obtain ⟨rfl, X⟩ := hR
    obtain ⟨A224, n225, c226, X⟩ := obj106_open X
    obtain ⟨h227, X⟩ := (X.pk 1).unpure
    refine wn (hK217 _ _ ?_)
    refine wp_exit ?_
    exact hb3 y218.f0 l180 G A224 n225 c226 h227 U w (J.sub _ rfl) X
   replace G := iff' hb216 G
   refine wp_skip ?_
   refine hK212 _ _ ?_
   refine wp_draw [0, 0, 0, 6, 15, 31, 0, 0, 0, 384, 960, 1984, 4095, 8191, 16383] [14] rfl J X (by kernel_rfl) (by kernel_rfl) (by kernel_rfl) (by kernel_rfl) fun w X => ?_
   obtain ⟨h228, G⟩ := chk_some G
   obtain ⟨x229, h230, G⟩ := ltt_ G
   obtain ⟨x231, h232, G⟩ := bnd G
   obtain ⟨cs, hV, hc233⟩ := el (X.rd 1 rfl) h232
   obtain rfl := hV
   obtain ⟨h234, G⟩ := chk_some G
   obtain ⟨x235, h236, G⟩ := ltt_ G
   obtain ⟨h237, G⟩ := chk_some G
   obtain ⟨x238, h239, G⟩ := ltt_ G
   obtain ⟨x240, h241, G⟩ := ltt_ G
   obtain ⟨x242, h243, G⟩ := ltt_ G
   refine ⟨[(0, .slice (some ⟨g136, 0, none⟩) a1.toNat a1.toNat), (1, .int .i64 x181), (2, .int .i64 x126), (3, .int .i64 x229), (4, .pointer (some (ea (some ⟨g136, 0, none⟩) (x229.toNat * 1)))), (5, .int .i64 x231), (6, .int .u64 x210), (7, .int .i64 x181), (8, .int .i64 x126), (9, .int .i64 x235), (10, .int .u64 x238), (11, .int .i64 x240), (12, .int .i64 x242), (13, .pointer (some (ea (some ⟨g136, 0, none⟩) (x229.toNat * 1))))], ?_⟩
   refine dF [0, 1, 2, 3, 4, 5, 6, 7, 8, 9, 10, 11, 12, 13] [14] (by kernel_rfl) ⟨pm rfl, pm rfl, pm rfl, pt [(67, .int .i64 x181), (68, .int .i64 x126)] rfl (fun U J => (rv_i h230 (r_quo rfl (J.ev rfl) (J.ev rfl) h228) : RunV _ _ _ _ (.int .i64 x229))), pt [(66, .slice (some ⟨g136, 0, none⟩) a1.toNat a1.toNat), (69, .int .i64 x229)] rfl (fun U J => y_ia uu90 sz2 (X.rd 1 rfl) h232 J rfl rfl rfl), pt [(70, .pointer (some (ea (some ⟨g136, 0, none⟩) (x229.toNat * 1))))] rfl (fun U J => y_ld uu2 (hc233 0 _ rfl) J rfl rfl rfl), pm rfl, pm rfl, pm rfl, pt [(73, .int .i64 x181), (74, .int .i64 x126)] rfl (fun U J => (rv_i h236 (r_rem rfl (J.ev rfl) (J.ev rfl) h234) : RunV _ _ _ _ (.int .i64 x235))), pt [(72, .int .u64 x210), (75, .int .i64 x235)] rfl (fun U J => (rv_i h239 (r_shl rfl (J.ev rfl) (J.ev rfl) h237) : RunV _ _ _ _ (.int .u64 x238))), pt [(76, .int .u64 x238)] rfl (fun U J => (rv_i h241 (r_convI uu31 uu2 rfl (J.ev rfl)) : RunV _ _ _ _ (.int .i64 x240))), pt [(71, .int .i64 x231), (77, .int .i64 x240)] rfl (fun U J => (rv_i h243 (r_or rfl (J.ev rfl) (J.ev rfl)) : RunV _ _ _ _ (.int .i64 x242))), pt [(66, .slice (some ⟨g136, 0, none⟩) a1.toNat a1.toNat), (69, .int .i64 x229)] rfl (fun U J => y_ia uu90 sz2 (X.rd 1 rfl) h232 J rfl rfl rfl), trivial⟩ ⟨et [(78, .int .i64 x242), (79, .pointer (some (ea (some ⟨g136, 0, none⟩) (x229.toNat * 1))))] rfl (fun U J K hK => ?_), trivial⟩
   refine z_sto (z' := x242) (off := 0) (vs := [.int .i64 x242]) 1 sz2 J X rfl (at_some h232).2.2 (fun c h => by cases h; rfl) (fun  w X => ?_) rfl rfl rfl rfl rfl rfl
   refine hK _ [] _ rfl ?_
   refine dEnd [] (by kernel_rfl) trivial ⟨by kernel_rfl, by kernel_rfl⟩ [(0, (pP g0)), (1, .int .i64 a1), (5, .int .i64 y106.1), (6, .int .i64 x126), (7, .slice (some ⟨g136, 0, none⟩) a1.toNat a1.toNat), (40, .int .i64 x139), (41, .int .i64 x181)] rfl (fun U J => ?_)
   replace X := X.pk 1
   exact hb3 l179 (l180.set x229.toNat x242) G A176 n177 c178 h182 U w (J.sub _ rfl) X
  replace G := iff' hb185 G
  refine wp_exit ?_
  cases G
  exact hx170_0 l179 l180 (T170_ _ rfl) A176 n177 c178 h182 U w (J.sub _ rfl) X
 refine wp_reg ?_
 refine x_m J rfl fun U J => ?_
 refine x_m J rfl fun U J => ?_
 refine x_v J (r_leI rfl (J.ev rfl) (J.ev rfl)) rfl fun U J => ?_
 refine x_m J rfl fun U J => ?_
 refine bcase (b := decide (x126 ≤ 64)) (fun hb244 => ?_) fun hb244 => ?_
 ·replace G := ift hb244 G
  refine x_on' hb244 J ?_ rfl
  refine x_m J rfl fun U J => ?_
  refine x_on' hb244 J ?_ rfl
  refine x_v J (r_nilCheck rfl (J.ev rfl)) rfl fun U J => ?_
  refine x_on' hb244 J ?_ rfl
  refine x_fab' fa106_0 J (fun U J => ?_) rfl
  refine x_on' hb244 J ?_ rfl
  refine x_ld' uu24 (X.cell 0 rfl 0 _ rfl) J (fun U J => ?_) rfl
  refine x_on' hb244 J ?_ rfl
  refine x_len' uu24 (X.rdl 1 (h125.rdl qz hZ) rfl).2.1 J (fun U J => ?_) rfl
  refine x_on' hb244 J ?_ rfl
  refine x_m J rfl fun U J => ?_
  refine x_on' hb244 J ?_ rfl
  refine x_m J rfl fun U J => ?_
  refine x_on' hb244 J ?_ rfl
  obtain ⟨x245, h246, G⟩ := ltt_ G
  refine x_v (v := .int .i64 x245) J (rv_i h246 (r_mul rfl (J.ev rfl) (J.ev rfl))) rfl fun U J => ?_
  refine x_on' hb244 J ?_ rfl
  obtain ⟨x247, h248, G⟩ := ltt_ G
  refine x_v (v := .int .i64 x247) J (rv_i h248 (r_add rfl (J.ev rfl) (J.ev rfl))) rfl fun U J => ?_
  refine x_on' hb244 J ?_ rfl
  obtain ⟨x249, h250, G⟩ := ltt_ G
  refine x_v (v := .int .i64 x249) J (rv_i h250 (r_quo rfl (J.ev rfl) (J.ev rfl) (by decide))) rfl fun U J => ?_
  refine x_on' hb244 J ?_ rfl
  refine x_v J (r_eqI rfl (J.ev rfl) (J.ev rfl)) rfl fun U J => ?_
  refine x_pickt' hb244 J (fun U J => ?_) rfl
  replace X := SH.pure_ h125 X
  replace X := X.pk 1
  replace X := obj106_mk (x := y116.2) X
  obtain ⟨y251, h252, G⟩ := bnd G
  rcases y251 with y251 | y251
  rotate_left
  ·replace G := sum_r G
   refine x_callp' (vs := #[.pointer (some ⟨g0, 0, none⟩), .bool ((y116.2.f0.length : Int) == x249)]) en59 J (RetS.rf (F_column_Reader_Check (L := L) y116.2 ((y116.2.f0.length : Int) == x249) g0 h252 (qz + 0) hZ X)) (fun w hR => ?_) rfl
   replace X := hR
   obtain ⟨A253, n254, c255, X⟩ := obj106_open X
   obtain ⟨h256, X⟩ := (X.pk 1).unpure
   replace X := SH.pure_ h256 X
   replace X := X.pk 1
   replace X := obj106_mk (x := y251) X
   cases G
   exact hQp _ rfl _ _ J.defers X
  replace G := sum_l G
  refine x_callw' (vs := #[.pointer (some ⟨g0, 0, none⟩), .bool ((y116.2.f0.length : Int) == x249)]) en59 J (RetS.lf (F_column_Reader_Check (L := L) y116.2 ((y116.2.f0.length : Int) == x249) g0 h252 (qz + 0) hZ X)) (fun v U w hR J => ?_) rfl
  obtain ⟨rfl, X⟩ := hR
  obtain ⟨A257, n258, c259, X⟩ := obj106_open X
  obtain ⟨h260, X⟩ := (X.pk 1).unpure
  refine wpList_nil ?_
  exact hj1 y251.f0 G A257 n258 c259 h260 U w (J.sub _ rfl) X
 replace G := iff' hb244 G
 refine xO 11 hb244 J rfl fun U J => ?_
 refine x_pickf' hb244 J (fun U J => ?_) rfl
 replace X := SH.pure_ h125 X
 replace X := X.pk 1
 replace X := obj106_mk (x := y116.2) X
 obtain ⟨y261, h262, G⟩ := bnd G
 rcases y261 with y261 | y261
 rotate_left
 ·replace G := sum_r G
  refine x_callp' (vs := #[.pointer (some ⟨g0, 0, none⟩), .bool false]) en59 J (RetS.rf (F_column_Reader_Check (L := L) y116.2 false g0 h262 (qz + 0) hZ X)) (fun w hR => ?_) rfl
  replace X := hR
  obtain ⟨A263, n264, c265, X⟩ := obj106_open X
  obtain ⟨h266, X⟩ := (X.pk 1).unpure
  replace X := SH.pure_ h266 X
  replace X := X.pk 1
  replace X := obj106_mk (x := y261) X
  cases G
  exact hQp _ rfl _ _ J.defers X
 replace G := sum_l G
 refine x_callw' (vs := #[.pointer (some ⟨g0, 0, none⟩), .bool false]) en59 J (RetS.lf (F_column_Reader_Check (L := L) y116.2 false g0 h262 (qz + 0) hZ X)) (fun v U w hR J => ?_) rfl
 obtain ⟨rfl, X⟩ := hR
 obtain ⟨A267, n268, c269, X⟩ := obj106_open X
 obtain ⟨h270, X⟩ := (X.pk 1).unpure
 refine wpList_nil ?_
 exact hj1 y261.f0 G A267 n268 c269 h270 U w (J.sub _ rfl) X
theorem F_column_ints {r : World} {L : List HP} {w : World} {Z : Nat → Prop} {wz : World} (a0 : S106) (g0 : Nat) {y : (((List Int) × S106) ⊕ (S106))} (G : column_ints a0 = some y) (qz : Nat) (hZ : L[qz]? = some (zone Z wz)) (X : SH r (obj106 Z wz g0 a0 :: L) w) :
  RetS Tryd.prog 78 #[.pointer (some ⟨g0, 0, none⟩)] w badC y (fun y v w' => ∃ (B0 : Option Addr) (m0 : Nat) (d0 : Nat), v = .slice B0 m0 d0 ∧ SH r (own (kI .i64) 2 B0 m0 d0 y.1 :: obj106 Z wz g0 y.2 :: L) w') (fun y w' => SH r (obj106 Z wz g0 y :: L) w') := by
 refine enterS Tryd.func78 rfl Tryd.ntmps78 [(0, (pP g0))] rfl (by simp) ?_
 intro U J Qf hQ hQn hQp
 unfold column_ints at G
 obtain ⟨A100, n101, c102, X⟩ := obj106_open X
 obtain ⟨h103, X⟩ := (X.pk 1).unpure
 refine ws fun K104 hK104 => ?_
 refine x_m J rfl fun U J => ?_
 refine wn (hK104 _ _ ?_)
 refine ws fun K105 hK105 => ?_
 refine x_m J rfl fun U J => ?_
 replace X := SH.pure_ h103 X
 replace X := X.pk 1
 replace X := obj106_mk (x := a0) X
 obtain ⟨y106, h107, G⟩ := bnd G
 rcases y106 with y106 | y106
 rotate_left
 ·replace G := sum_r G
  refine x_callp' (vs := #[.pointer (some ⟨g0, 0, none⟩)]) en76 J (RetS.rf (F_column_Reader_Byte (L := L) a0 g0 h107 (qz + 0) hZ X)) (fun w hR => ?_) rfl
  replace X := hR
  obtain ⟨A108, n109, c110, X⟩ := obj106_open X
  obtain ⟨h111, X⟩ := (X.pk 1).unpure
  replace X := SH.pure_ h111 X
  replace X := X.pk 1
  replace X := obj106_mk (x := y106) X
  cases G
  exact hQp _ rfl _ _ J.defers X
 replace G := sum_l G
 refine x_callw' (vs := #[.pointer (some ⟨g0, 0, none⟩)]) en76 J (RetS.lf (F_column_Reader_Byte (L := L) a0 g0 h107 (qz + 0) hZ X)) (fun v U w hR J => ?_) rfl
 obtain ⟨rfl, X⟩ := hR
 obtain ⟨A112, n113, c114, X⟩ := obj106_open X
 obtain ⟨h115, X⟩ := (X.pk 1).unpure
 refine x_m J rfl fun U J => ?_
 refine wn (hK105 _ _ ?_)
 refine ws fun K116 hK116 => ?_
 refine x_m J rfl fun U J => ?_
 refine x_m J rfl fun U J => ?_
 refine x_v J (r_leI rfl (J.ev rfl) (J.ev rfl)) rfl fun U J => ?_
 replace X := SH.pure_ h115 X
 replace X := X.pk 1
 replace X := obj106_mk (x := y106.2) X
 obtain ⟨y117, h118, G⟩ := bnd G
 rcases y117 with y117 | y117
 rotate_left
 ·replace G := sum_r G
  refine x_callp' (vs := #[.pointer (some ⟨g0, 0, none⟩), .bool (decide (y106.1 ≤ 3))]) en59 J (RetS.rf (F_column_Reader_Check (L := L) y106.2 (decide (y106.1 ≤ 3)) g0 h118 (qz + 0) hZ X)) (fun w hR => ?_) rfl
  replace X := hR
  obtain ⟨A119, n120, c121, X⟩ := obj106_open X
  obtain ⟨h122, X⟩ := (X.pk 1).unpure
  replace X := SH.pure_ h122 X
  replace X := X.pk 1
  replace X := obj106_mk (x := y117) X
  cases G
  exact hQp _ rfl _ _ J.defers X
 replace G := sum_l G
 refine x_callw' (vs := #[.pointer (some ⟨g0, 0, none⟩), .bool (decide (y106.1 ≤ 3))]) en59 J (RetS.lf (F_column_Reader_Check (L := L) y106.2 (decide (y106.1 ≤ 3)) g0 h118 (qz + 0) hZ X)) (fun v U w hR J => ?_) rfl
 obtain ⟨rfl, X⟩ := hR
 obtain ⟨A123, n124, c125, X⟩ := obj106_open X
 obtain ⟨h126, X⟩ := (X.pk 1).unpure
 refine wn (hK116 _ _ ?_)
 refine ws fun K127 hK127 => ?_
 refine x_m J rfl fun U J => ?_
 replace X := SH.pure_ h126 X
 replace X := X.pk 1
 replace X := obj106_mk (x := y117) X
 obtain ⟨y128, h129, G⟩ := bnd G
 rcases y128 with y128 | y128
 rotate_left
 ·replace G := sum_r G
  refine x_callp' (vs := #[.pointer (some ⟨g0, 0, none⟩), .int .u64 4096]) en58 J (RetS.rf (F_column_Reader_Uint (L := L) y117 4096 g0 h129 (qz + 0) hZ X)) (fun w hR => ?_) rfl
  replace X := hR
  obtain ⟨A130, n131, c132, X⟩ := obj106_open X
  obtain ⟨h133, X⟩ := (X.pk 1).unpure
  replace X := SH.pure_ h133 X
  replace X := X.pk 1
  replace X := obj106_mk (x := y128) X
  cases G
  exact hQp _ rfl _ _ J.defers X
 replace G := sum_l G
 refine x_callw' (vs := #[.pointer (some ⟨g0, 0, none⟩), .int .u64 4096]) en58 J (RetS.lf (F_column_Reader_Uint (L := L) y117 4096 g0 h129 (qz + 0) hZ X)) (fun v U w hR J => ?_) rfl
 obtain ⟨rfl, X⟩ := hR
 obtain ⟨A134, n135, c136, X⟩ := obj106_open X
 obtain ⟨h137, X⟩ := (X.pk 1).unpure
 obtain ⟨x138, h139, G⟩ := ltt_ G
 refine x_v (v := .int .i64 x138) J (rv_i h139 (r_convI uu31 uu3 rfl (J.ev rfl))) rfl fun U J => ?_
 refine x_m J rfl fun U J => ?_
 refine wn (hK127 _ _ ?_)
 refine ws fun K140 hK140 => ?_
 refine x_m J rfl fun U J => ?_
 refine wn (hK140 _ _ ?_)
 refine wp_seq_k fun K141 hK141 => ?_
 refine ws fun K142 hK142 => ?_
 refine x_m J rfl fun U J => ?_
 refine wn (hK142 _ _ ?_)
 refine wp_block_k fun Kx143 hKx143 => ?_
 have hb1 : ∀ (l144 : (List Int)) (l145 : (List Int)), column_ints_b1 l144 l145 = some y → ∀ (A146 : Option Addr) (n147 : Nat) (c148 : Nat) (A149 : Option Addr) (n150 : Nat) (c151 : Nat) (h152 : Imm Z wz (kI .u8) A146 n147 c148 l144) (U : Act) (w : World), FR 70 [] U [(0, (pP g0)), (5, .slice A149 n150 c151)] → SH r (blk g0 106 [.slice A146 n147 c148] :: own (kI .i64) 2 A149 n150 c151 l145 :: L) w → Kx143 U w := by
  intro l144 l145 G A146 n147 c148 A149 n150 c151 h152 U w J X
  unfold column_ints_b1 at G
  refine hKx143 _ _ ?_
  refine hK141 _ _ ?_
  refine ws fun K153 hK153 => ?_
  refine x_m J rfl fun U J => ?_
  refine x_m J rfl fun U J => ?_
  refine wn (hK153 _ _ ?_)
  refine wp_ret ?_
  replace X := SH.pure_ h152 X
  replace X := X.pk 1
  replace X := obj106_mk (x := (⟨l144⟩ : S106)) X
  replace X := X.pk 1
  cases G
  refine hQ _ rfl _ _ ?_
  refine lv Tryd.results78 J rfl ?_
  exact ⟨A149, n150, c151, rfl, X⟩
 refine ws fun K154 hK154 => ?_
 refine x_v J (r_eqI rfl (J.ev rfl) (J.ev rfl)) rfl fun U J => ?_
 refine x_m J rfl fun U J => ?_
 refine wn (hK154 _ _ ?_)
 refine c_if J rfl (fun hb155 => ?_) fun hb155 => ?_
 ·replace G := ift hb155 G
  refine wp_reg ?_
  refine x_m J rfl fun U J => ?_
  refine x_m J rfl fun U J => ?_
  refine x_v J (r_makeFunc rfl (mapev (vals := #[.pointer (some ⟨g0, 0, none⟩)]) J rfl) (mapev (vals := #[]) J rfl)) rfl fun U J => ?_
  replace X := SH.pure_ h137 X
  replace X := X.pk 1
  replace X := obj106_mk (x := y128.2) X
  obtain ⟨y156, h157, G⟩ := bnd G
  rcases y156 with y156 | y156
  rotate_left
  ·replace G := sum_r G
   refine x_callp' (vs := #[.int .i64 x138, .func (.func 60) #[.pointer (some ⟨g0, 0, none⟩)] #[]]) en92 J (RetS.rf (F_column_list_int64 (L := L) x138 y128.2 g0 h157 (qz + 0) hZ X)) (fun w hR => ?_) rfl
   replace X := hR
   obtain ⟨A158, n159, c160, X⟩ := obj106_open X
   obtain ⟨h161, X⟩ := (X.pk 1).unpure
   replace X := SH.pure_ h161 X
   replace X := X.pk 1
   replace X := obj106_mk (x := y156) X
   cases G
   exact hQp _ rfl _ _ J.defers X
  replace G := sum_l G
  refine x_callw' (vs := #[.int .i64 x138, .func (.func 60) #[.pointer (some ⟨g0, 0, none⟩)] #[]]) en92 J (RetS.lf (F_column_list_int64 (L := L) x138 y128.2 g0 h157 (qz + 0) hZ X)) (fun v U w hR J => ?_) rfl
  obtain ⟨B162, m163, d164, rfl, X⟩ := hR
  replace X := X.pk 1
  obtain ⟨A165, n166, c167, X⟩ := obj106_open X
  obtain ⟨h168, X⟩ := (X.pk 1).unpure
  refine x_m J rfl fun U J => ?_
  refine wpList_nil ?_
  exact hb1 y156.2.f0 y156.1 G A165 n166 c167 B162 m163 d164 h168 U w (J.sub _ rfl) X
 replace G := iff' hb155 G
 refine ws fun K169 hK169 => ?_
 refine x_v J (r_eqI rfl (J.ev rfl) (J.ev rfl)) rfl fun U J => ?_
 refine x_m J rfl fun U J => ?_
 refine wn (hK169 _ _ ?_)
 refine c_if J rfl (fun hb170 => ?_) fun hb170 => ?_
 ·replace G := ift hb170 G
  refine ws fun K171 hK171 => ?_
  refine x_m J rfl fun U J => ?_
  refine wn (hK171 _ _ ?_)
  refine ws fun K172 hK172 => ?_
  refine x_m J rfl fun U J => ?_
  refine x_m J rfl fun U J => ?_
  refine wn (hK172 _ _ ?_)
  refine wp_block_k fun Kx173 hKx173 => ?_
  have hb2 : ∀ (l174 : (List Int)) (l175 : (List Int)), column_ints_b2 l174 l175 = some y → ∀ (A176 : Option Addr) (n177 : Nat) (c178 : Nat) (A179 : Option Addr) (n180 : Nat) (c181 : Nat) (h182 : Imm Z wz (kI .u8) A176 n177 c178 l174) (U : Act) (w : World), FR 70 [] U [(0, (pP g0)), (5, .slice A179 n180 c181)] → SH r (blk g0 106 [.slice A176 n177 c178] :: own (kI .i64) 2 A179 n180 c181 l175 :: L) w → Kx173 U w := by
   intro l174 l175 G A176 n177 c178 A179 n180 c181 h182 U w J X
   unfold column_ints_b2 at G
   refine hKx173 _ _ ?_
   exact hb1 l174 l175 G A176 n177 c178 A179 n180 c181 h182 U w (J.sub _ rfl) X
  obtain ⟨t183, hl183, G⟩ := bnd G
  have hR183 := G
  have hx183_1 : ∀ (l184 : (List Int)) (l185 : (List Int)), (.inl (l184, l185)) = t183 → ∀ (A186 : Option Addr) (n187 : Nat) (c188 : Nat) (A189 : Option Addr) (n190 : Nat) (c183 : Nat) (h191 : Imm Z wz (kI .u8) A186 n187 c188 l184) (U : Act) (w : World), FR 70 [] U [(0, (pP g0)), (5, .slice A189 n190 c183)] → SH r (blk g0 106 [.slice A186 n187 c188] :: own (kI .i64) 2 A189 n190 c183 l185 :: L) w → Kx173 U w := by
   intro l184 l185 ht A186 n187 c188 A189 n190 c183 h191 U w J X
   subst ht
   replace G : column_ints_x1_1 l184 l185 = some y := G
   unfold column_ints_x1_1 at G
   exact hb2 l184 l185 G A186 n187 c188 A189 n190 c183 h191 U w (J.sub _ rfl) X
  replace X := SH.nil_own (d := (kI .i64)) (e := 2) X
  replace X := X.pk 1
  refine wp_loop_fn hl183 (fun s U w => ∃ (A192 : Option Addr) (n193 : Nat) (c194 : Nat) (A195 : Option Addr) (n196 : Nat) (c197 : Nat), Imm Z wz (kI .u8) A192 n193 c194 s.1 ∧ FR 70 [] U [(0, (pP g0)), (5, .slice A195 n196 c197), (6, .int .i64 s.2.2.1), (26, .int .i64 x138), (27, .int .i64 s.2.2.2)] ∧ SH r (blk g0 106 [.slice A192 n193 c194] :: own (kI .i64) 2 A195 n196 c197 s.2.1 :: L) w) ⟨A134, n135, c136, none, 0, 0, h137, J.sub _ rfl, X⟩ ?_
  intro N183 s183 o183 G N183_ T183_ U w hLab
  obtain ⟨l198, l199, x200, x201⟩ := s183
  replace G : column_ints_l1 x138 l198 l199 x200 x201 = some o183 := G
  unfold column_ints_l1 at G
  try dsimp only at hLab
  obtain ⟨A192, n193, c194, A195, n196, c197, h202, J, X⟩ := hLab
  refine ws fun K203 hK203 => ?_
  refine x_v J (r_ltI rfl (J.ev rfl) (J.ev rfl)) rfl fun U J => ?_
  refine wn (hK203 _ _ ?_)
  refine wp_seq_k fun K204 hK204 => ?_
  refine c_if J rfl (fun hb205 => ?_) fun hb205 => ?_
  ·replace G := ift hb205 G
   refine wp_skip ?_
   refine hK204 _ _ ?_
   refine wp_seq_k fun K206 hK206 => ?_
   refine wp_block_k fun Kx207 hKx207 => ?_
   refine ws fun K208 hK208 => ?_
   refine x_m J rfl fun U J => ?_
   refine x_m J rfl fun U J => ?_
   replace X := SH.pure_ h202 X
   replace X := X.pk 1
   replace X := obj106_mk (x := (⟨l198⟩ : S106)) X
   obtain ⟨y209, h210, G⟩ := bnd G
   rcases y209 with y209 | y209
   rotate_left
   ·replace G := sum_r G
    refine x_callp' (vs := #[.pointer (some ⟨g0, 0, none⟩)]) en60 J (RetS.rf (F_column_Reader_Int (L := own (kI .i64) 2 A195 n196 c197 l199 :: L) (⟨l198⟩ : S106) g0 h210 (qz + 1) hZ X)) (fun w hR => ?_) rfl
    replace X := hR
    obtain ⟨A211, n212, c213, X⟩ := obj106_open X
    obtain ⟨h214, X⟩ := (X.pk 1).unpure
    replace X := SH.pure_ h214 X
    replace X := X.pk 1
    replace X := obj106_mk (x := y209) X
    replace X := X.drop 1
    cases G
    have ht := T183_ _ rfl
    subst ht
    replace G := hR183
    replace G : some (.inr y209) = some y := G
    cases G
    exact hQp _ rfl _ _ J.defers X
   replace G := sum_l G
   refine x_callw' (vs := #[.pointer (some ⟨g0, 0, none⟩)]) en60 J (RetS.lf (F_column_Reader_Int (L := own (kI .i64) 2 A195 n196 c197 l199 :: L) (⟨l198⟩ : S106) g0 h210 (qz + 1) hZ X)) (fun v U w hR J => ?_) rfl
   obtain ⟨rfl, X⟩ := hR
   obtain ⟨A215, n216, c217, X⟩ := obj106_open X
   obtain ⟨h218, X⟩ := (X.pk 1).unpure
   obtain ⟨x219, h220, G⟩ := ltt_ G
   refine x_v (v := .int .i64 x219) J (rv_i h220 (r_add rfl (J.ev rfl) (J.ev rfl))) rfl fun U J => ?_
   refine x_m J rfl fun U J => ?_
   refine wn (hK208 _ _ ?_)
   refine wp_reg ?_
   refine x_m J rfl fun U J => ?_
   refine x_m J rfl fun U J => ?_
   refine x_bsl' (d := (kI .i64)) (e := 2) (ps := #[(0, .int .i64 x219)]) (cells := [.int .i64 x219]) (xs := [x219]) (fun w => by kernel_rfl) rfl ⟨[.int .i64 x219], _, rfl, rfl, rfl⟩ J X (fun g221 U w X J => ?_) rfl
   obtain ⟨h222, G⟩ := chk_some G
   have hr := X.rd 0 rfl
   refine x_app' 2 inf2 uu90 J X hr.1 hr.2.1 h222 rfl (fun A223 n224 c225 U w X J => ?_) rfl
   refine x_m J rfl fun U J => ?_
   refine wpList_nil ?_
   refine hKx207 _ _ ?_
   refine hK206 _ _ ?_
   refine wp_reg ?_
   obtain ⟨x226, h227, G⟩ := ltt_ G
   refine x_v (v := .int .i64 x226) J (rv_i h227 (r_add rfl (J.ev rfl) (J.ev rfl))) rfl fun U J => ?_
   refine x_m J rfl fun U J => ?_
   refine wpList_nil ?_
   replace X := X.drop 1 |>.pk 1
   cases G
   exact ⟨_, N183_ _ rfl, A215, n216, c217, A223, n224, c225, h218, J.sub _ rfl, X⟩
  replace G := iff' hb205 G
  refine wp_exit ?_
  cases G
  exact hx183_1 l198 l199 (T183_ _ rfl) A192 n193 c194 A195 n196 c197 h202 U w (J.sub _ rfl) X
 replace G := iff' hb170 G
 refine ws fun K228 hK228 => ?_
 refine x_v J (r_eqI rfl (J.ev rfl) (J.ev rfl)) rfl fun U J => ?_
 refine x_m J rfl fun U J => ?_
 refine wn (hK228 _ _ ?_)
 refine c_if J rfl (fun hb229 => ?_) fun hb229 => ?_
 ·replace G := ift hb229 G
  refine wp_block_k fun Kx230 hKx230 => ?_
  have hb3 : ∀ (l231 : (List Int)) (l232 : (List Int)), column_ints_b3 l231 l232 = some y → ∀ (A233 : Option Addr) (n234 : Nat) (c235 : Nat) (A236 : Option Addr) (n237 : Nat) (c238 : Nat) (h239 : Imm Z wz (kI .u8) A233 n234 c235 l231) (U : Act) (w : World), FR 70 [] U [(0, (pP g0)), (5, .slice A236 n237 c238)] → SH r (blk g0 106 [.slice A233 n234 c235] :: own (kI .i64) 2 A236 n237 c238 l232 :: L) w → Kx230 U w := by
   intro l231 l232 G A233 n234 c235 A236 n237 c238 h239 U w J X
   unfold column_ints_b3 at G
   refine hKx230 _ _ ?_
   exact hb1 l231 l232 G A233 n234 c235 A236 n237 c238 h239 U w (J.sub _ rfl) X
  obtain ⟨t240, hl240, G⟩ := bnd G
  have hR240 := G
  have hx240_3 : ∀ (l241 : (List Int)) (l242 : (List Int)), (.inl (l241, l242)) = t240 → ∀ (A243 : Option Addr) (n244 : Nat) (c245 : Nat) (A246 : Option Addr) (n247 : Nat) (c240 : Nat) (h248 : Imm Z wz (kI .u8) A243 n244 c245 l241) (U : Act) (w : World), FR 70 [] U [(0, (pP g0)), (5, .slice A246 n247 c240)] → SH r (blk g0 106 [.slice A243 n244 c245] :: own (kI .i64) 2 A246 n247 c240 l242 :: L) w → Kx230 U w := by
   intro l241 l242 ht A243 n244 c245 A246 n247 c240 h248 U w J X
   subst ht
   replace G : column_ints_x2_3 l241 l242 = some y := G
   unfold column_ints_x2_3 at G
   exact hb3 l241 l242 G A243 n244 c245 A246 n247 c240 h248 U w (J.sub _ rfl) X
  replace X := SH.nil_own (d := (kI .i64)) (e := 2) X
  replace X := X.pk 1
  refine wp_loop_fn hl240 (fun s U w => ∃ (A249 : Option Addr) (n250 : Nat) (c251 : Nat) (A252 : Option Addr) (n253 : Nat) (c254 : Nat), Imm Z wz (kI .u8) A249 n250 c251 s.1 ∧ FR 70 [] U [(0, (pP g0)), (4, .int .i64 x138), (5, .slice A252 n253 c254)] ∧ SH r (blk g0 106 [.slice A249 n250 c251] :: own (kI .i64) 2 A252 n253 c254 s.2 :: L) w) ⟨A134, n135, c136, none, 0, 0, h137, J.sub _ rfl, X⟩ ?_
  intro N240 s240 o240 G N240_ T240_ U w hLab
  obtain ⟨l255, l256⟩ := s240
  replace G : column_ints_l2 x138 l255 l256 = some o240 := G
  unfold column_ints_l2 at G
  try dsimp only at hLab
  obtain ⟨A249, n250, c251, A252, n253, c254, h257, J, X⟩ := hLab
  refine wp_seq_k fun K258 hK258 => ?_
  refine ws fun K259 hK259 => ?_
  refine x_m J rfl fun U J => ?_
  refine x_len' uu90 (X.rd 1 rfl).2.1 J (fun U J => ?_) rfl
  refine x_m J rfl fun U J => ?_
  refine x_v J (r_ltI rfl (J.ev rfl) (J.ev rfl)) rfl fun U J => ?_
  refine wn (hK259 _ _ ?_)
  refine c_if J rfl (fun hb260 => ?_) fun hb260 => ?_
  ·replace G := ift hb260 G
   refine wp_skip ?_
   refine hK258 _ _ ?_
   refine wp_block_k fun Kx261 hKx261 => ?_
   refine ws fun K262 hK262 => ?_
   refine x_m J rfl fun U J => ?_
   replace X := SH.pure_ h257 X
   replace X := X.pk 1
   replace X := obj106_mk (x := (⟨l255⟩ : S106)) X
   obtain ⟨y263, h264, G⟩ := bnd G
   rcases y263 with y263 | y263
   rotate_left
   ·replace G := sum_r G
    refine x_callp' (vs := #[.pointer (some ⟨g0, 0, none⟩)]) en60 J (RetS.rf (F_column_Reader_Int (L := own (kI .i64) 2 A252 n253 c254 l256 :: L) (⟨l255⟩ : S106) g0 h264 (qz + 1) hZ X)) (fun w hR => ?_) rfl
    replace X := hR
    obtain ⟨A265, n266, c267, X⟩ := obj106_open X
    obtain ⟨h268, X⟩ := (X.pk 1).unpure
    replace X := SH.pure_ h268 X
    replace X := X.pk 1
    replace X := obj106_mk (x := y263) X
    replace X := X.drop 1
    cases G
    have ht := T240_ _ rfl
    subst ht
    replace G := hR240
    replace G : some (.inr y263) = some y := G
    cases G
    exact hQp _ rfl _ _ J.defers X
   replace G := sum_l G
   refine x_callw' (vs := #[.pointer (some ⟨g0, 0, none⟩)]) en60 J (RetS.lf (F_column_Reader_Int (L := own (kI .i64) 2 A252 n253 c254 l256 :: L) (⟨l255⟩ : S106) g0 h264 (qz + 1) hZ X)) (fun v U w hR J => ?_) rfl
   obtain ⟨rfl, X⟩ := hR
   obtain ⟨A269, n270, c271, X⟩ := obj106_open X
   obtain ⟨h272, X⟩ := (X.pk 1).unpure
   refine x_m J rfl fun U J => ?_
   refine wn (hK262 _ _ ?_)
   refine ws fun K273 hK273 => ?_
   refine x_m J rfl fun U J => ?_
   refine x_m J rfl fun U J => ?_
   refine x_m J rfl fun U J => ?_
   refine x_len' uu90 (X.rd 1 rfl).2.1 J (fun U J => ?_) rfl
   obtain ⟨x274, h275, G⟩ := ltt_ G
   refine x_v (v := .int .i64 x274) J (rv_i h275 (r_sub rfl (J.ev rfl) (J.ev rfl))) rfl fun U J => ?_
   obtain ⟨x276, h277, G⟩ := ltt_ G
   refine x_v (v := .int .i64 x276) J (rv_i h277 (r_sub rfl (J.ev rfl) (J.ev rfl))) rfl fun U J => ?_
   obtain ⟨x278, h279, G⟩ := ltt_ G
   refine x_v (v := .int .u64 x278) J (rv_i h279 (r_convI uu3 uu31 rfl (J.ev rfl))) rfl fun U J => ?_
   replace X := SH.pure_ h272 X
   replace X := X.pk 1
   replace X := obj106_mk (x := y263.2) X
   obtain ⟨y280, h281, G⟩ := bnd G
   rcases y280 with y280 | y280
   rotate_left
   ·replace G := sum_r G
    refine x_callp' (vs := #[.pointer (some ⟨g0, 0, none⟩), .int .u64 x278]) en58 J (RetS.rf (F_column_Reader_Uint (L := own (kI .i64) 2 A252 n253 c254 l256 :: L) y263.2 x278 g0 h281 (qz + 1) hZ X)) (fun w hR => ?_) rfl
    replace X := hR
    obtain ⟨A282, n283, c284, X⟩ := obj106_open X
    obtain ⟨h285, X⟩ := (X.pk 1).unpure
    replace X := SH.pure_ h285 X
    replace X := X.pk 1
    replace X := obj106_mk (x := y280) X
    replace X := X.drop 1
    cases G
    have ht := T240_ _ rfl
    subst ht
    replace G := hR240
    replace G : some (.inr y280) = some y := G
    cases G
    exact hQp _ rfl _ _ J.defers X
   replace G := sum_l G
   refine x_callw' (vs := #[.pointer (some ⟨g0, 0, none⟩), .int .u64 x278]) en58 J (RetS.lf (F_column_Reader_Uint (L := own (kI .i64) 2 A252 n253 c254 l256 :: L) y263.2 x278 g0 h281 (qz + 1) hZ X)) (fun v U w hR J => ?_) rfl
   obtain ⟨rfl, X⟩ := hR
   obtain ⟨A286, n287, c288, X⟩ := obj106_open X
   obtain ⟨h289, X⟩ := (X.pk 1).unpure
   obtain ⟨x290, h291, G⟩ := ltt_ G
   refine x_v (v := .int .u64 x290) J (rv_i h291 (r_add rfl (J.ev rfl) (J.ev rfl))) rfl fun U J => ?_
   refine x_m J rfl fun U J => ?_
   refine wn (hK273 _ _ ?_)
   refine wp_block_k fun Kx292 hKx292 => ?_
   have hb4 : ∀ (l293 : (List Int)), column_ints_b4 y280 l293 = some o240 → ∀ (A294 : Option Addr) (n295 : Nat) (c296 : Nat) (U : Act) (w : World), FR 70 [] U [(0, (pP g0)), (4, .int .i64 x138), (5, .slice A294 n295 c296)] → SH r (blk g0 106 [.slice A286 n287 c288] :: own (kI .i64) 2 A294 n295 c296 l293 :: L) w → Kx292 U w := by
    intro l293 G A294 n295 c296 U w J X
    unfold column_ints_b4 at G
    refine hKx292 _ _ ?_
    refine hKx261 _ _ ?_
    cases G
    exact ⟨_, N240_ _ rfl, A286, n287, c288, A294, n295, c296, h289, J.sub _ rfl, X⟩
   obtain ⟨t297, hl297, G⟩ := bnd G
   have hx297_5 : ∀ (l298 : (List Int)), (l298) = t297 → ∀ (A299 : Option Addr) (n300 : Nat) (c297 : Nat) (U : Act) (w : World), FR 70 [] U [(0, (pP g0)), (4, .int .i64 x138), (5, .slice A299 n300 c297)] → SH r (blk g0 106 [.slice A286 n287 c288] :: own (kI .i64) 2 A299 n300 c297 l298 :: L) w → Kx292 U w := by
    intro l298 ht A299 n300 c297 U w J X
    subst ht
    replace G : column_ints_x3_5 y280 l298 = some o240 := G
    unfold column_ints_x3_5 at G
    exact hb4 l298 G A299 n300 c297 U w (J.sub _ rfl) X
   refine wp_loop_fn hl297 (fun s U w => ∃ (A301 : Option Addr) (n302 : Nat) (c303 : Nat), FR 70 [] U [(0, (pP g0)), (4, .int .i64 x138), (5, .slice A301 n302 c303), (7, .int .i64 y263.1), (54, .int .u64 x290), (55, .int .u64 s.2)] ∧ SH r (blk g0 106 [.slice A286 n287 c288] :: own (kI .i64) 2 A301 n302 c303 s.1 :: L) w) ⟨A252, n253, c254, J.sub _ rfl, X⟩ ?_
   intro N297 s297 o297 G N297_ T297_ U w hLab
   obtain ⟨l304, x305⟩ := s297
   replace G : column_ints_l3 y263 x290 l304 x305 = some o297 := G
   unfold column_ints_l3 at G
   try dsimp only at hLab
   obtain ⟨A301, n302, c303, J, X⟩ := hLab
   refine ws fun K306 hK306 => ?_
   refine x_v J (r_ltI rfl (J.ev rfl) (J.ev rfl)) rfl fun U J => ?_
   refine wn (hK306 _ _ ?_)
   refine wp_seq_k fun K307 hK307 => ?_
   refine c_if J rfl (fun hb308 => ?_) fun hb308 => ?_
   ·replace G := ift hb308 G
    refine wp_skip ?_
    refine hK307 _ _ ?_
    refine wp_seq_k fun K309 hK309 => ?_
    refine wp_block_k fun Kx310 hKx310 => ?_
    refine wp_reg ?_
    refine x_m J rfl fun U J => ?_
    refine x_m J rfl fun U J => ?_
    refine x_bsl' (d := (kI .i64)) (e := 2) (ps := #[(0, .int .i64 y263.1)]) (cells := [.int .i64 y263.1]) (xs := [y263.1]) (fun w => by kernel_rfl) rfl ⟨[.int .i64 y263.1], _, rfl, rfl, rfl⟩ J X (fun g311 U w X J => ?_) rfl
    obtain ⟨h312, G⟩ := chk_some G
    have hr := X.rd 0 rfl
    refine x_app' 2 inf2 uu90 J X hr.1 hr.2.1 h312 rfl (fun A313 n314 c315 U w X J => ?_) rfl
    refine x_m J rfl fun U J => ?_
    refine wpList_nil ?_
    refine hKx310 _ _ ?_
    refine hK309 _ _ ?_
    refine wp_reg ?_
    obtain ⟨x316, h317, G⟩ := ltt_ G
    refine x_v (v := .int .u64 x316) J (rv_i h317 (r_add rfl (J.ev rfl) (J.ev rfl))) rfl fun U J => ?_
    refine x_m J rfl fun U J => ?_
    refine wpList_nil ?_
    replace X := X.drop 1 |>.pk 1
    cases G
    exact ⟨_, N297_ _ rfl, A313, n314, c315, J.sub _ rfl, X⟩
   replace G := iff' hb308 G
   refine wp_exit ?_
   cases G
   exact hx297_5 l304 (T297_ _ rfl) A301 n302 c303 U w (J.sub _ rfl) X
  replace G := iff' hb260 G
  refine wp_exit ?_
  cases G
  exact hx240_3 l255 l256 (T240_ _ rfl) A249 n250 c251 A252 n253 c254 h257 U w (J.sub _ rfl) X
 replace G := iff' hb229 G
 refine ws fun K318 hK318 => ?_
 refine x_v J (r_eqI rfl (J.ev rfl) (J.ev rfl)) rfl fun U J => ?_
 refine x_m J rfl fun U J => ?_
 refine wn (hK318 _ _ ?_)
 refine c_if J rfl (fun hb319 => ?_) fun hb319 => ?_
 ·replace G := ift hb319 G
  refine ws fun K320 hK320 => ?_
  refine x_m J rfl fun U J => ?_
  refine x_v J (r_gtI rfl (J.ev rfl) (J.ev rfl)) rfl fun U J => ?_
  refine wn (hK320 _ _ ?_)
  refine c_if J rfl (fun hb321 => ?_) fun hb321 => ?_
  ·replace G := ift hb321 G
   refine wp_reg ?_
   refine x_m J rfl fun U J => ?_
   refine x_m J rfl fun U J => ?_
   replace X := SH.pure_ h137 X
   replace X := X.pk 1
   replace X := obj106_mk (x := y128.2) X
   obtain ⟨y322, h323, G⟩ := bnd G
   rcases y322 with y322 | y322
   rotate_left
   ·replace G := sum_r G
    refine x_callp' (vs := #[.pointer (some ⟨g0, 0, none⟩), .int .i64 x138]) en93 J (RetS.rf (F_column_unpack (L := L) y128.2 x138 g0 h323 (qz + 0) hZ X)) (fun w hR => ?_) rfl
    replace X := hR
    obtain ⟨A324, n325, c326, X⟩ := obj106_open X
    obtain ⟨h327, X⟩ := (X.pk 1).unpure
    replace X := SH.pure_ h327 X
    replace X := X.pk 1
    replace X := obj106_mk (x := y322) X
    cases G
    exact hQp _ rfl _ _ J.defers X
   replace G := sum_l G
   refine x_callw' (vs := #[.pointer (some ⟨g0, 0, none⟩), .int .i64 x138]) en93 J (RetS.lf (F_column_unpack (L := L) y128.2 x138 g0 h323 (qz + 0) hZ X)) (fun v U w hR J => ?_) rfl
   obtain ⟨B328, m329, d330, rfl, X⟩ := hR
   replace X := X.pk 1
   obtain ⟨A331, n332, c333, X⟩ := obj106_open X
   obtain ⟨h334, X⟩ := (X.pk 1).unpure
   refine x_m J rfl fun U J => ?_
   refine wpList_nil ?_
   exact hb1 y322.2.f0 y322.1 G A331 n332 c333 B328 m329 d330 h334 U w (J.sub _ rfl) X
  replace G := iff' hb321 G
  refine wp_skip ?_
  replace X := SH.nil_own (d := (kI .i64)) (e := 2) X
  replace X := X.pk 1
  exact hb1 y128.2.f0 [] G A134 n135 c136 none 0 0 h137 U w (J.sub _ rfl) X
 replace G := iff' hb319 G
 refine wp_skip ?_
 replace X := SH.nil_own (d := (kI .i64)) (e := 2) X
 replace X := X.pk 1
 exact hb1 y128.2.f0 [] G A134 n135 c136 none 0 0 h137 U w (J.sub _ rfl) X
theorem F_column_ReadInts_1 {r : World} {L : List HP} {w : World} {Z : Nat → Prop} {wz : World} (a0 : S106) (a1 : (List Int)) (g0 : Nat) (g1 : Nat) {y : ((S106 × (List Int)) ⊕ (S106 × (List Int)))} (G : column_ReadInts_1 a0 a1 = some y) (qz : Nat) (hZ : L[qz]? = some (zone Z wz)) (X : SH r (obj106 Z wz g0 a0 :: obj90 g1 a1 :: L) w) :
  RetS Tryd.prog 77 #[.pointer (some ⟨g0, 0, none⟩), (pP g1)] w badC y (fun y v w' => v = .tuple #[] ∧ SH r (obj106 Z wz g0 y.1 :: obj90 g1 y.2 :: L) w') (fun y w' => SH r (obj106 Z wz g0 y.1 :: obj90 g1 y.2 :: L) w') := by
 refine enterS Tryd.func77 rfl Tryd.ntmps77 [(0, (pP g0)), (1, (pP g1))] rfl (by simp) ?_
 intro U J Qf hQ hQn hQp
 unfold column_ReadInts_1 at G
 obtain ⟨A100, n101, c102, X⟩ := obj106_open X
 obtain ⟨h103, X⟩ := (X.pk 1).unpure
 replace X := X.pk 1
 obtain ⟨A104, n105, c106, X⟩ := obj90_open X
 refine wp_reg ?_
 refine x_m J rfl fun U J => ?_
 replace X := SH.pure_ h103 X
 replace X := X.pk 3
 replace X := obj106_mk (x := a0) X
 obtain ⟨y107, h108, G⟩ := bnd G
 rcases y107 with y107 | y107
 rotate_left
 ·replace G := sum_r G
  refine x_callp' (vs := #[.pointer (some ⟨g0, 0, none⟩)]) en78 J (RetS.rf (F_column_ints (L := blk g1 90 [.slice A104 n105 c106] :: own (kI .i64) 2 A104 n105 c106 a1 :: L) a0 g0 h108 (qz + 2) hZ X)) (fun w hR => ?_) rfl
  replace X := hR
  obtain ⟨A109, n110, c111, X⟩ := obj106_open X
  obtain ⟨h112, X⟩ := (X.pk 1).unpure
  replace X := SH.pure_ h112 X
  replace X := X.pk 1
  replace X := obj106_mk (x := y107) X
  replace X := X.pk 2 |>.pk 2
  replace X := obj90_mk (x := a1) X
  replace X := X.pk 1
  cases G
  exact hQp _ rfl _ _ J.defers X
 replace G := sum_l G
 refine x_callw' (vs := #[.pointer (some ⟨g0, 0, none⟩)]) en78 J (RetS.lf (F_column_ints (L := blk g1 90 [.slice A104 n105 c106] :: own (kI .i64) 2 A104 n105 c106 a1 :: L) a0 g0 h108 (qz + 2) hZ X)) (fun v U w hR J => ?_) rfl
 obtain ⟨B113, m114, d115, rfl, X⟩ := hR
 replace X := X.pk 1
 obtain ⟨A116, n117, c118, X⟩ := obj106_open X
 obtain ⟨h119, X⟩ := (X.pk 1).unpure
 refine x_stb' 2 sz90 J X rfl (fun  U w X J => ?_) rfl
 refine wpList_nil ?_
 replace X := SH.pure_ h119 X
 replace X := X.pk 2
 replace X := obj106_mk (x := y107.2) X
 replace X := X.pk 2 |>.pk 2
 replace X := obj90_mk (x := y107.1) X
 replace X := X.drop 2 |>.pk 1
 cases G
 refine hQn _ rfl _ _ ?_
 refine lv0n Tryd.results77 J ?_
 exact ⟨rfl, X⟩
theorem F_Try_column_ReadInts_1 {r : World} {L : List HP} {w : World} {Z : Nat → Prop} {wz : World} (a0 : (List Int)) (a60 : (List Int)) (A0 : Option Addr) (n0 : Nat) (c0 : Nat) (g60 : Nat) {y : (Bool × (List Int))} (G : Try_column_ReadInts_1 a0 a60 = some y) (qz : Nat) (hZ : L[qz]? = some (zone Z wz)) (ha0 : Imm Z wz (kI .u8) A0 n0 c0 a0) (X : SH r (obj90 g60 a60 :: L) w) :
  Ret Tryd.prog 39 #[.slice A0 n0 c0, .func (.func 77) #[] #[.pointer (some ⟨g60, 0, none⟩)]] w fun v w' => v = .bool y.1 ∧ SH r (obj90 g60 y.2 :: L) w' := by
 obtain ⟨y', hy, G⟩ := bnd G
 refine Ret.mono_ (try_walk (R := fun v w' => v = .bool y.1 ∧ SH r (obj90 g60 y.2 :: L) w') en77 X (fun g g4 w1 hS1 => ?_)) (fun v w' h => h)
 replace hS1 := obj106_mk (x := ⟨a0⟩) (hS1.pk 1 |> fun h => (SH.pure_ ha0 (h.pk 1)).pk 1)
 replace hS1 := hS1.pk 1
 replace hS1 := hS1.pk 2
 replace hS1 := hS1.pk 2
 rcases y' with y' | y'
 ·replace G := sum_l G
  cases G
  left
  refine Ret.mono_ (RetS.lf (F_column_ReadInts_1 (L := blk g4 4 [.bool false] :: L) (⟨a0⟩ : S106) a60 g g60 hy (qz + 1) hZ hS1)) ?_
  rintro v w2 ⟨rfl, X⟩
  replace X := X.pk 2 |>.pk 1
  obtain ⟨A', n', c', X⟩ := obj106_open X
  have hQ := SH.unpure (X.pk 1)
  clear X
  obtain ⟨hi, X⟩ := hQ
  refine ⟨_, A', n', c', X, fun w3 h3 => ⟨?_, h3⟩⟩
  rw [← hi.ln]
 ·replace G := sum_r G
  cases G
  right
  refine Calls.mono (RetS.rf (F_column_ReadInts_1 (L := blk g4 4 [.bool false] :: L) (⟨a0⟩ : S106) a60 g g60 hy (qz + 1) hZ hS1)) ?_
  rintro e w2 ⟨rfl, X⟩
  replace X := X.pk 2 |>.drop 1
  exact ⟨rfl, _, X, fun w3 h3 => ⟨rfl, h3⟩⟩
theorem F_column_ReadInts {r : World} {L : List HP} {w : World} {Z : Nat → Prop} {wz : World} (a0 : (List Int)) (A0 : Option Addr) (n0 : Nat) (c0 : Nat) {y : ((List Int) × Int)} (G : column_ReadInts a0 = some y) (qz : Nat) (hZ : L[qz]? = some (zone Z wz)) (ha0 : Imm Z wz (kI .u8) A0 n0 c0 a0) (X : SH r (L) w) :
  Ret Tryd.prog 63 #[.slice A0 n0 c0] w fun v w' => ∃ (B0 : Option Addr) (m0 : Nat) (d0 : Nat), v = .tuple #[(.slice B0 m0 d0), (.int .i64 y.2)] ∧ SH r (own (kI .i64) 2 B0 m0 d0 y.1 :: L) w' := by
 refine enter Tryd.func63 rfl Tryd.ntmps63 [(0, .slice A0 n0 c0)] rfl (by simp) ?_
 intro U J Qf hQ hQn
 unfold column_ReadInts at G
 refine ws fun K100 hK100 => ?_
 refine x_m J rfl fun U J => ?_
 refine x_m J rfl fun U J => ?_
 refine wn (hK100 _ _ ?_)
 refine ws fun K101 hK101 => ?_
 refine x_alloc' (cs := [.slice none 0 0]) zr90 J X (fun g102 U w X J => ?_) rfl
 refine wn (hK101 _ _ ?_)
 refine wp_seq_k fun K103 hK103 => ?_
 refine ws fun K104 hK104 => ?_
 refine x_m J rfl fun U J => ?_
 refine x_v J (r_makeFunc rfl (mapev (vals := #[]) J rfl) (mapev (vals := #[.pointer (some ⟨g102, 0, none⟩)]) J rfl)) rfl fun U J => ?_
 replace X := SH.nil_own (d := (kI .i64)) (e := 2) X
 replace X := X.pk 1
 replace X := obj90_mk (x := []) X
 obtain ⟨y105, h106, G⟩ := bnd G
 refine x_call' en39 J (F_Try_column_ReadInts_1 (L := L) a0 [] A0 n0 c0 g102 h106 (qz + 0) hZ ha0 X) (fun v U w hR J => ?_) rfl
 obtain ⟨rfl, X⟩ := hR
 obtain ⟨A107, n108, c109, X⟩ := obj90_open X
 refine x_v J (r_not rfl (J.ev rfl)) rfl fun U J => ?_
 refine wn (hK104 _ _ ?_)
 refine c_if J rfl (fun hb110 => ?_) fun hb110 => ?_
 ·replace G := ift hb110 G
  refine ws fun K111 hK111 => ?_
  refine x_m J rfl fun U J => ?_
  refine x_m J rfl fun U J => ?_
  refine wn (hK111 _ _ ?_)
  refine wp_ret ?_
  replace X := SH.nil_own (d := (kI .i64)) (e := 2) X
  replace X := X.drop 1 |>.drop 1
  cases G
  refine hQ _ _ ?_
  refine lv2 Tryd.results63 J rfl rfl ?_
  exact ⟨none, 0, 0, rfl, X⟩
 replace G := iff' hb110 G
 refine wp_skip ?_
 refine hK103 _ _ ?_
 refine ws fun K112 hK112 => ?_
 refine x_ld' uu90 (X.cell 0 rfl 0 _ rfl) J (fun U J => ?_) rfl
 refine x_m J rfl fun U J => ?_
 refine x_m J rfl fun U J => ?_
 refine wn (hK112 _ _ ?_)
 refine wp_ret ?_
 replace X := X.drop 0
 cases G
 refine hQ _ _ ?_
 refine lv2 Tryd.results63 J rfl rfl ?_
 exact ⟨A107, n108, c109, rfl, X⟩
end Go.Proofs.YteodeedejjcmgaaDoor.M
