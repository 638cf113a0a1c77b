/- Texts of the claim, joined: what it uses of Mrn, Dsh, Msh, DlSegmentScans, MlSegmentScans, LSegmentScans, DlSegmentNil, DlSegmentWrites, DlSegmentChunks, DlSegmentTurned, DlSegmentPrunes, DlSegmentParted, Qa, Qb, Qc, Qd, Qe, Qf. -/
import Derived.Test.YteodeedejjcmgaaDoorZg
import Derived.Test.YteodeedejjcmgaaDoorCards
import Derived.Test.YteodeedejjcmgaaDoorTie
import Derived.SevenTiedAt
import Derived.LaidMore
import Derived.OpenShut
import Derived.Stop.Joined
import Derived.ProofKit
import Derived.IntWalk
namespace Go.Proofs.YteodeedejjcmgaaDoor.M
open Go Go.RowKit Go.Proofs.YteodeedejjcmgaaDoor.E
set_option linter.unusedVariables false
set_option maxRecDepth 100000
set_option maxHeartbeats 4000000
set_option linter.unusedSimpArgs false
theorem F_r07_Wants {r : World} {L : List HP} {w : World} (a0 : (List S44)) (a1 : Int) (a2 : Int) (a3 : Int) (a4 : Int) (A0 : Option Addr) (n0 : Nat) (c0 : Nat) {y : ((List S44) × Int)} (G : r07_Wants a0 a1 a2 a3 a4 = some y) (ha0 : RdL L k44 A0 n0 c0 a0) (X : SH r (L) w) :
  Ret Tryd.prog 21 #[.slice A0 n0 c0, .int .u64 a1, .int .u64 a2, .int .i64 a3, .int .i64 a4] w fun v w' => ∃ (B0 : Option Addr) (m0 : Nat) (d0 : Nat), v = .tuple #[(.slice B0 m0 d0), (.int .i64 y.2)] ∧ SH r (own k44 44 B0 m0 d0 y.1 :: L) w' := by
 refine enter Tryd.func21 rfl Tryd.ntmps21 [(0, .slice A0 n0 c0), (1, .int .u64 a1), (2, .int .u64 a2), (3, .int .i64 a3), (4, .int .i64 a4)] rfl (by simp) ?_
 intro U J Qf hQ hQn
 unfold r07_Wants at G
 refine ws fun K100 hK100 => ?_
 refine x_m J rfl fun U J => ?_
 refine x_m J rfl fun U J => ?_
 refine wn (hK100 _ _ ?_)
 refine ws fun K101 hK101 => ?_
 refine x_m J rfl fun U J => ?_
 refine wn (hK101 _ _ ?_)
 refine ws fun K102 hK102 => ?_
 refine x_m J rfl fun U J => ?_
 refine wn (hK102 _ _ ?_)
 refine wp_seq_k fun K103 hK103 => ?_
 refine ws fun K104 hK104 => ?_
 refine x_m J rfl fun U J => ?_
 refine wn (hK104 _ _ ?_)
 refine wp_block_k fun Kx105 hKx105 => ?_
 have hb1 : ∀ (l106 : (List S44)) (x107 : Int), r07_Wants_b1 l106 x107 = some y → ∀ (A108 : Option Addr) (n109 : Nat) (c110 : Nat) (U : Act) (w : World), FR 112 [] U [(12, .slice A108 n109 c110), (13, .int .i64 x107)] → SH r (own k44 44 A108 n109 c110 l106 :: L) w → Kx105 U w := by
  intro l106 x107 G A108 n109 c110 U w J X
  unfold r07_Wants_b1 at G
  refine hKx105 _ _ ?_
  refine hK103 _ _ ?_
  refine ws fun K111 hK111 => ?_
  refine x_m J rfl fun U J => ?_
  refine x_m J rfl fun U J => ?_
  refine x_m J rfl fun U J => ?_
  refine x_m J rfl fun U J => ?_
  refine wn (hK111 _ _ ?_)
  refine wp_ret ?_
  cases G
  refine hQ _ _ ?_
  refine lv2 Tryd.results21 J rfl rfl ?_
  exact ⟨A108, n109, c110, rfl, X⟩
 obtain ⟨t112, hl112, G⟩ := bnd G
 have hx112_0 : ∀ (l113 : (List S44)) (x112 : Int), (l113, x112) = t112 → ∀ (A114 : Option Addr) (n115 : Nat) (c116 : Nat) (U : Act) (w : World), FR 112 [] U [(12, .slice A114 n115 c116), (13, .int .i64 x112)] → SH r (own k44 44 A114 n115 c116 l113 :: L) w → Kx105 U w := by
  intro l113 x112 ht A114 n115 c116 U w J X
  subst ht
  replace G : r07_Wants_x1_0 l113 x112 = some y := G
  unfold r07_Wants_x1_0 at G
  exact hb1 l113 x112 G A114 n115 c116 U w (J.sub _ rfl) X
 replace X := SH.nil_own (d := k44) (e := 44) X
 refine wp_loop_fn hl112 (fun s U w => ∃ (A117 : Option Addr) (n118 : Nat) (c119 : Nat), FR 112 [] U [(0, .slice A0 n0 c0), (1, .int .u64 a1), (2, .int .u64 a2), (3, .int .i64 a3), (4, .int .i64 a4), (12, .slice A117 n118 c119), (13, .int .i64 s.2.1), (14, .int .i64 s.2.2)] ∧ SH r (own k44 44 A117 n118 c119 s.1 :: L) w) ⟨none, 0, 0, J.sub _ rfl, X⟩ ?_
 intro N112 s112 o112 G N112_ T112_ U w hLab
 obtain ⟨l120, x121, x122⟩ := s112
 replace G : r07_Wants_l1 a0 a1 a2 a3 a4 l120 x121 x122 = some o112 := G
 unfold r07_Wants_l1 at G
 try dsimp only at hLab
 obtain ⟨A117, n118, c119, J, X⟩ := hLab
 refine wp_seq_k fun K123 hK123 => ?_
 refine ws fun K124 hK124 => ?_
 refine x_m J rfl fun U J => ?_
 refine x_m J rfl fun U J => ?_
 refine x_len' uu22 (X.rdl 1 ha0 rfl).2.1 J (fun U J => ?_) rfl
 refine x_v J (r_ltI rfl (J.ev rfl) (J.ev rfl)) rfl fun U J => ?_
 refine wn (hK124 _ _ ?_)
 refine c_if J rfl (fun hb125 => ?_) fun hb125 => ?_
 ·replace G := ift hb125 G
  refine wp_skip ?_
  refine hK123 _ _ ?_
  refine wp_seq_k fun K126 hK126 => ?_
  refine wp_block_k fun Kx127 hKx127 => ?_
  have hb2 : ∀ (l128 : (List S44)) (x129 : Int), r07_Wants_b2 x122 l128 x129 = some o112 → ∀ (A130 : Option Addr) (n131 : Nat) (c132 : Nat) (U : Act) (w : World), FR 112 [] U [(0, .slice A0 n0 c0), (1, .int .u64 a1), (2, .int .u64 a2), (3, .int .i64 a3), (4, .int .i64 a4), (12, .slice A130 n131 c132), (13, .int .i64 x129), (14, .int .i64 x122)] → SH r (own k44 44 A130 n131 c132 l128 :: L) w → Kx127 U w := by
   intro l128 x129 G A130 n131 c132 U w J X
   unfold r07_Wants_b2 at G
   refine hKx127 _ _ ?_
   refine hK126 _ _ ?_
   refine wp_reg ?_
   refine x_m J rfl fun U J => ?_
   obtain ⟨x133, h134, G⟩ := ltt_ G
   refine x_v (v := .int .i64 x133) J (rv_i h134 (r_add rfl (J.ev rfl) (J.ev rfl))) rfl fun U J => ?_
   refine x_m J rfl fun U J => ?_
   refine wpList_nil ?_
   cases G
   exact ⟨_, N112_ _ rfl, A130, n131, c132, J.sub _ rfl, X⟩
  refine ws fun K135 hK135 => ?_
  refine x_m J rfl fun U J => ?_
  refine wn (hK135 _ _ ?_)
  refine ws fun K136 hK136 => ?_
  refine x_m J rfl fun U J => ?_
  refine wn (hK136 _ _ ?_)
  refine ws fun K137 hK137 => ?_
  refine x_m J rfl fun U J => ?_
  refine wn (hK137 _ _ ?_)
  refine wp_seq_k fun K138 hK138 => ?_
  refine ws fun K139 hK139 => ?_
  refine x_m J rfl fun U J => ?_
  refine x_m J rfl fun U J => ?_
  refine wn (hK139 _ _ ?_)
  refine wp_block_k fun Kx140 hKx140 => ?_
  have hb3 : ∀ (l141 : (List S44)) (b142 : Bool) (b143 : Bool) (b144 : Bool), r07_Wants_b3 a3 a4 x121 x122 l141 b142 b143 b144 = some o112 → ∀ (A145 : Option Addr) (n146 : Nat) (c147 : Nat) (U : Act) (w : World), FR 112 [] U [(0, .slice A0 n0 c0), (1, .int .u64 a1), (2, .int .u64 a2), (3, .int .i64 a3), (4, .int .i64 a4), (12, .slice A145 n146 c147), (13, .int .i64 x121), (14, .int .i64 x122), (15, .bool b142), (16, .bool b143), (17, .bool b144)] → SH r (own k44 44 A145 n146 c147 l141 :: L) w → Kx140 U w := by
   intro l141 b142 b143 b144 G A145 n146 c147 U w J X
   unfold r07_Wants_b3 at G
   refine hKx140 _ _ ?_
   refine hK138 _ _ ?_
   refine wp_seq_k fun K148 hK148 => ?_
   have hj1 : ∀ (b149 : Bool), r07_Wants_j1 x121 x122 l141 b149 = some o112 → ∀ (U : Act) (w : World), FR 112 [] U [(0, .slice A0 n0 c0), (1, .int .u64 a1), (2, .int .u64 a2), (3, .int .i64 a3), (4, .int .i64 a4), (12, .slice A145 n146 c147), (13, .int .i64 x121), (14, .int .i64 x122), (107, .bool b149)] → SH r (own k44 44 A145 n146 c147 l141 :: L) w → K148 U w := by
    intro b149 G U w J X
    unfold r07_Wants_j1 at G
    refine hK148 _ _ ?_
    refine c_if J rfl (fun hb150 => ?_) fun hb150 => ?_
    ·replace G := ift hb150 G
     refine wp_reg ?_
     refine x_m J rfl fun U J => ?_
     obtain ⟨x151, h152, G⟩ := ltt_ G
     refine x_v (v := .int .i64 x151) J (rv_i h152 (r_add rfl (J.ev rfl) (J.ev rfl))) rfl fun U J => ?_
     refine x_m J rfl fun U J => ?_
     refine wpList_nil ?_
     exact hb2 l141 x151 G A145 n146 c147 U w (J.sub _ rfl) X
    replace G := iff' hb150 G
    refine wp_skip ?_
    exact hb2 l141 x121 G A145 n146 c147 U w (J.sub _ rfl) X
   refine wp_reg ?_
   refine x_m J rfl fun U J => ?_
   refine x_m J rfl fun U J => ?_
   refine bcase (b := b142) (fun hb153 => ?_) fun hb153 => ?_
   ·replace G := ift hb153 G
    refine x_on' hb153 J ?_ rfl
    refine x_m J rfl fun U J => ?_
    refine x_pickt' hb153 J (fun U J => ?_) rfl
    refine x_m J rfl fun U J => ?_
    refine bcase (b := b143) (fun hb154 => ?_) fun hb154 => ?_
    ·replace G := ift hb154 G
     refine x_on' hb154 J ?_ rfl
     refine x_m J rfl fun U J => ?_
     refine x_pickt' hb154 J (fun U J => ?_) rfl
     refine x_m J rfl fun U J => ?_
     refine bcase (b := b144) (fun hb155 => ?_) fun hb155 => ?_
     ·replace G := ift hb155 G
      refine x_on' hb155 J ?_ rfl
      refine x_m J rfl fun U J => ?_
      refine x_on' hb155 J ?_ rfl
      refine x_m J rfl fun U J => ?_
      refine x_on' hb155 J ?_ rfl
      refine x_v J (r_leI rfl (J.ev rfl) (J.ev rfl)) rfl fun U J => ?_
      refine x_pickt' hb155 J (fun U J => ?_) rfl
      refine wpList_nil ?_
      exact hj1 (decide (a3 ≤ a4)) G U w (J.sub _ rfl) X
     replace G := iff' hb155 G
     refine xO 3 hb155 J rfl fun U J => ?_
     refine x_pickf' hb155 J (fun U J => ?_) rfl
     refine wpList_nil ?_
     exact hj1 false G U w (J.sub _ rfl) X
    replace G := iff' hb154 G
    refine xO 1 hb154 J rfl fun U J => ?_
    refine x_pickf' hb154 J (fun U J => ?_) rfl
    refine x_m J rfl fun U J => ?_
    refine xO 3 rfl J rfl fun U J => ?_
    refine x_pickf' rfl J (fun U J => ?_) rfl
    refine wpList_nil ?_
    exact hj1 false G U w (J.sub _ rfl) X
   replace G := iff' hb153 G
   refine xO 1 hb153 J rfl fun U J => ?_
   refine x_pickf' hb153 J (fun U J => ?_) rfl
   refine x_m J rfl fun U J => ?_
   refine xO 1 rfl J rfl fun U J => ?_
   refine x_pickf' rfl J (fun U J => ?_) rfl
   refine x_m J rfl fun U J => ?_
   refine xO 3 rfl J rfl fun U J => ?_
   refine x_pickf' rfl J (fun U J => ?_) rfl
   refine wpList_nil ?_
   exact hj1 false G U w (J.sub _ rfl) X
  obtain ⟨t156, hl156, G⟩ := bnd G
  have hx156_2 : ∀ (l157 : (List S44)) (b158 : Bool) (b159 : Bool) (b156 : Bool), (l157, b158, b159, b156) = t156 → ∀ (A160 : Option Addr) (n161 : Nat) (c162 : Nat) (U : Act) (w : World), FR 112 [] U [(0, .slice A0 n0 c0), (1, .int .u64 a1), (2, .int .u64 a2), (3, .int .i64 a3), (4, .int .i64 a4), (12, .slice A160 n161 c162), (13, .int .i64 x121), (14, .int .i64 x122), (15, .bool b158), (16, .bool b159), (17, .bool b156)] → SH r (own k44 44 A160 n161 c162 l157 :: L) w → Kx140 U w := by
   intro l157 b158 b159 b156 ht A160 n161 c162 U w J X
   subst ht
   replace G : r07_Wants_x2_2 a3 a4 x121 x122 l157 b158 b159 b156 = some o112 := G
   unfold r07_Wants_x2_2 at G
   exact hb3 l157 b158 b159 b156 G A160 n161 c162 U w (J.sub _ rfl) X
  refine wp_loop_fn hl156 (fun s U w => ∃ (A163 : Option Addr) (n164 : Nat) (c165 : Nat), FR 112 [] U [(0, .slice A0 n0 c0), (1, .int .u64 a1), (2, .int .u64 a2), (3, .int .i64 a3), (4, .int .i64 a4), (12, .slice A163 n164 c165), (13, .int .i64 x121), (14, .int .i64 x122), (15, .bool s.2.1), (16, .bool s.2.2.1), (17, .bool s.2.2.2.1), (18, .int .i64 s.2.2.2.2)] ∧ SH r (own k44 44 A163 n164 c165 s.1 :: L) w) ⟨A117, n118, c119, J.sub _ rfl, X⟩ ?_
  intro N156 s156 o156 G N156_ T156_ U w hLab
  obtain ⟨l166, b167, b168, b169, x170⟩ := s156
  replace G : r07_Wants_l2 a0 a1 a2 a3 a4 x122 l166 b167 b168 b169 x170 = some o156 := G
  unfold r07_Wants_l2 at G
  try dsimp only at hLab
  obtain ⟨A163, n164, c165, J, X⟩ := hLab
  refine wp_seq_k fun K171 hK171 => ?_
  refine wp_seq_k fun K172 hK172 => ?_
  have hj2 : ∀ (b173 : Bool), r07_Wants_j2 a0 a1 a2 a3 a4 l166 b167 b168 b169 x170 b173 = some o156 → ∀ (U : Act) (w : World), FR 112 [] U [(0, .slice A0 n0 c0), (1, .int .u64 a1), (2, .int .u64 a2), (3, .int .i64 a3), (4, .int .i64 a4), (12, .slice A163 n164 c165), (13, .int .i64 x121), (14, .int .i64 x122), (15, .bool b167), (16, .bool b168), (17, .bool b169), (18, .int .i64 x170), (36, .bool b173)] → SH r (own k44 44 A163 n164 c165 l166 :: L) w → K172 U w := by
   intro b173 G U w J X
   unfold r07_Wants_j2 at G
   refine hK172 _ _ ?_
   refine c_if J rfl (fun hb174 => ?_) fun hb174 => ?_
   ·replace G := ift hb174 G
    refine wp_skip ?_
    refine hK171 _ _ ?_
    refine wp_seq_k fun K175 hK175 => ?_
    refine wp_block_k fun Kx176 hKx176 => ?_
    have hb4 : ∀ (l177 : (List S44)) (b178 : Bool) (b179 : Bool) (b180 : Bool), r07_Wants_b4 x170 l177 b178 b179 b180 = some o156 → ∀ (A181 : Option Addr) (n182 : Nat) (c183 : Nat) (U : Act) (w : World), FR 112 [] U [(0, .slice A0 n0 c0), (1, .int .u64 a1), (2, .int .u64 a2), (3, .int .i64 a3), (4, .int .i64 a4), (12, .slice A181 n182 c183), (13, .int .i64 x121), (14, .int .i64 x122), (15, .bool b178), (16, .bool b179), (17, .bool b180), (18, .int .i64 x170)] → SH r (own k44 44 A181 n182 c183 l177 :: L) w → Kx176 U w := by
     intro l177 b178 b179 b180 G A181 n182 c183 U w J X
     unfold r07_Wants_b4 at G
     refine hKx176 _ _ ?_
     refine hK175 _ _ ?_
     refine wp_reg ?_
     refine x_m J rfl fun U J => ?_
     obtain ⟨x184, h185, G⟩ := ltt_ G
     refine x_v (v := .int .i64 x184) J (rv_i h185 (r_add rfl (J.ev rfl) (J.ev rfl))) rfl fun U J => ?_
     refine x_m J rfl fun U J => ?_
     refine wpList_nil ?_
     cases G
     exact ⟨_, N156_ _ rfl, A181, n182, c183, J.sub _ rfl, X⟩
    refine ws fun K186 hK186 => ?_
    refine x_m J rfl fun U J => ?_
    refine x_m J rfl fun U J => ?_
    obtain ⟨x187, h188, G⟩ := bnd G
    refine x_ia' uu22 sz44 (X.rdl 1 ha0 rfl) h188 J (fun U J => ?_) rfl
    obtain ⟨cs, hV, hc189⟩ := el (X.rdl 1 ha0 rfl) h188
    obtain rfl := hV
    refine x_lda' (cs := [.int .u64 x187.f0, .int .i64 x187.f1, .int .i64 x187.f2, str x187.f3, .float .f64 x187.f4]) uu44 sz44 (fun j u h => by rw [ea_add]; exact hc189 _ _ h) J (fun U J => ?_) rfl
    refine x_alloc' (cs := [.int .u64 0, .int .i64 0, .int .i64 0, str [], .float .f64 0]) zr44 J X (fun g190 U w X J => ?_) rfl
    refine x_stb' 0 sz44 J X rfl (fun  U w X J => ?_) rfl
    refine wn (hK186 _ _ ?_)
    refine wp_seq_k fun K191 hK191 => ?_
    have hj3 : ∀ (b192 : Bool), r07_Wants_j3 a1 a2 a3 a4 l166 b168 b169 x170 x187 b192 = some o156 → ∀ (U : Act) (w : World), FR 112 [] U [(0, .slice A0 n0 c0), (1, .int .u64 a1), (2, .int .u64 a2), (3, .int .i64 a3), (4, .int .i64 a4), (12, .slice A163 n164 c165), (13, .int .i64 x121), (14, .int .i64 x122), (15, .bool b192), (16, .bool b168), (17, .bool b169), (18, .int .i64 x170), (19, (pP g190))] → SH r (blk g190 44 [.int .u64 x187.f0, .int .i64 x187.f1, .int .i64 x187.f2, str x187.f3, .float .f64 x187.f4] :: own k44 44 A163 n164 c165 l166 :: L) w → K191 U w := by
     intro b192 G U w J X
     unfold r07_Wants_j3 at G
     refine hK191 _ _ ?_
     refine wp_seq_k fun K193 hK193 => ?_
     have hj4 : ∀ (b194 : Bool), r07_Wants_j4 a1 a2 a3 a4 l166 b169 x170 x187 b192 b194 = some o156 → ∀ (U : Act) (w : World), FR 112 [] U [(0, .slice A0 n0 c0), (1, .int .u64 a1), (2, .int .u64 a2), (3, .int .i64 a3), (4, .int .i64 a4), (12, .slice A163 n164 c165), (13, .int .i64 x121), (14, .int .i64 x122), (15, .bool b192), (16, .bool b194), (17, .bool b169), (18, .int .i64 x170), (19, (pP g190))] → SH r (blk g190 44 [.int .u64 x187.f0, .int .i64 x187.f1, .int .i64 x187.f2, str x187.f3, .float .f64 x187.f4] :: own k44 44 A163 n164 c165 l166 :: L) w → K193 U w := by
      intro b194 G U w J X
      unfold r07_Wants_j4 at G
      refine hK193 _ _ ?_
      refine wp_seq_k fun K195 hK195 => ?_
      have hj5 : ∀ (b196 : Bool), r07_Wants_j5 a1 a2 a3 a4 l166 x170 x187 b192 b194 b196 = some o156 → ∀ (U : Act) (w : World), FR 112 [] U [(0, .slice A0 n0 c0), (1, .int .u64 a1), (2, .int .u64 a2), (3, .int .i64 a3), (4, .int .i64 a4), (12, .slice A163 n164 c165), (13, .int .i64 x121), (14, .int .i64 x122), (15, .bool b192), (16, .bool b194), (17, .bool b196), (18, .int .i64 x170), (19, (pP g190))] → SH r (blk g190 44 [.int .u64 x187.f0, .int .i64 x187.f1, .int .i64 x187.f2, str x187.f3, .float .f64 x187.f4] :: own k44 44 A163 n164 c165 l166 :: L) w → K195 U w := by
       intro b196 G U w J X
       unfold r07_Wants_j5 at G
       refine hK195 _ _ ?_
       refine wp_seq_k fun K197 hK197 => ?_
       have hj6 : ∀ (b198 : Bool), r07_Wants_j6 l166 x170 x187 b192 b194 b196 b198 = some o156 → ∀ (U : Act) (w : World), FR 112 [] U [(0, .slice A0 n0 c0), (1, .int .u64 a1), (2, .int .u64 a2), (3, .int .i64 a3), (4, .int .i64 a4), (12, .slice A163 n164 c165), (13, .int .i64 x121), (14, .int .i64 x122), (15, .bool b192), (16, .bool b194), (17, .bool b196), (18, .int .i64 x170), (19, (pP g190)), (91, .bool b198)] → SH r (blk g190 44 [.int .u64 x187.f0, .int .i64 x187.f1, .int .i64 x187.f2, str x187.f3, .float .f64 x187.f4] :: own k44 44 A163 n164 c165 l166 :: L) w → K197 U w := by
        intro b198 G U w J X
        unfold r07_Wants_j6 at G
        refine hK197 _ _ ?_
        refine c_if J rfl (fun hb199 => ?_) fun hb199 => ?_
        ·replace G := ift hb199 G
         refine wp_reg ?_
         refine x_m J rfl fun U J => ?_
         refine x_lda' (ad := ⟨g190, 0, none⟩) (cs := [.int .u64 x187.f0, .int .i64 x187.f1, .int .i64 x187.f2, str x187.f3, .float .f64 x187.f4]) uu44 sz44 (fun j u h => by rw [add_mk, Nat.zero_add]; exact X.cell 0 rfl j u h) J (fun U J => ?_) rfl
         refine x_bsl' (d := k44) (e := 44) (ps := #[(0, .agg #[.int .u64 x187.f0, .int .i64 x187.f1, .int .i64 x187.f2, str x187.f3, .float .f64 x187.f4])]) (cells := [.int .u64 x187.f0, .int .i64 x187.f1, .int .i64 x187.f2, str x187.f3, .float .f64 x187.f4]) (xs := [x187]) (fun w => by kernel_rfl) rfl ⟨[.int .u64 x187.f0, .int .i64 x187.f1, .int .i64 x187.f2, str x187.f3, .float .f64 x187.f4], _, rfl, rfl, rfl⟩ J X (fun g200 U w X J => ?_) rfl
         obtain ⟨h201, G⟩ := chk_some G
         have hr := X.rd 0 rfl
         refine x_app' 2 inf44 uu22 J X hr.1 hr.2.1 h201 rfl (fun A202 n203 c204 U w X J => ?_) rfl
         refine x_m J rfl fun U J => ?_
         refine wpList_nil ?_
         replace X := X.drop 1 |>.drop 1
         exact hb4 (l166 ++ [x187]) b192 b194 b196 G A202 n203 c204 U w (J.sub _ rfl) X
        replace G := iff' hb199 G
        refine wp_skip ?_
        replace X := X.drop 0
        exact hb4 l166 b192 b194 b196 G A163 n164 c165 U w (J.sub _ rfl) X
       refine wp_reg ?_
       refine x_fab' fa44_0 J (fun U J => ?_) rfl
       refine x_ld' uu31 (X.cell 0 rfl 0 _ rfl) J (fun U J => ?_) rfl
       refine x_m J rfl fun U J => ?_
       refine x_v J (r_geI rfl (J.ev rfl) (J.ev rfl)) rfl fun U J => ?_
       refine x_m J rfl fun U J => ?_
       refine bcase (b := decide (a1 ≤ x187.f0)) (fun hb205 => ?_) fun hb205 => ?_
       ·replace G := ift hb205 G
        refine x_on' hb205 J ?_ rfl
        refine x_fab' fa44_0 J (fun U J => ?_) rfl
        refine x_on' hb205 J ?_ rfl
        refine x_ld' uu31 (X.cell 0 rfl 0 _ rfl) J (fun U J => ?_) rfl
        refine x_on' hb205 J ?_ rfl
        refine x_m J rfl fun U J => ?_
        refine x_on' hb205 J ?_ rfl
        refine x_v J (r_ltI rfl (J.ev rfl) (J.ev rfl)) rfl fun U J => ?_
        refine x_pickt' hb205 J (fun U J => ?_) rfl
        refine x_m J rfl fun U J => ?_
        refine bcase (b := decide (x187.f0 < a2)) (fun hb206 => ?_) fun hb206 => ?_
        ·replace G := ift hb206 G
         refine x_on' hb206 J ?_ rfl
         refine x_fab' fa44_2 J (fun U J => ?_) rfl
         refine x_on' hb206 J ?_ rfl
         refine x_ld' uu2 (X.cell 0 rfl 2 _ rfl) J (fun U J => ?_) rfl
         refine x_on' hb206 J ?_ rfl
         refine x_m J rfl fun U J => ?_
         refine x_on' hb206 J ?_ rfl
         refine x_v J (r_geI rfl (J.ev rfl) (J.ev rfl)) rfl fun U J => ?_
         refine x_pickt' hb206 J (fun U J => ?_) rfl
         refine x_m J rfl fun U J => ?_
         refine bcase (b := decide (a3 ≤ x187.f2)) (fun hb207 => ?_) fun hb207 => ?_
         ·replace G := ift hb207 G
          refine x_on' hb207 J ?_ rfl
          refine x_fab' fa44_2 J (fun U J => ?_) rfl
          refine x_on' hb207 J ?_ rfl
          refine x_ld' uu2 (X.cell 0 rfl 2 _ rfl) J (fun U J => ?_) rfl
          refine x_on' hb207 J ?_ rfl
          refine x_m J rfl fun U J => ?_
          refine x_on' hb207 J ?_ rfl
          refine x_v J (r_leI rfl (J.ev rfl) (J.ev rfl)) rfl fun U J => ?_
          refine x_pickt' hb207 J (fun U J => ?_) rfl
          refine wpList_nil ?_
          exact hj6 (decide (x187.f2 ≤ a4)) G U w (J.sub _ rfl) X
         replace G := iff' hb207 G
         refine xO 4 hb207 J rfl fun U J => ?_
         refine x_pickf' hb207 J (fun U J => ?_) rfl
         refine wpList_nil ?_
         exact hj6 false G U w (J.sub _ rfl) X
        replace G := iff' hb206 G
        refine xO 4 hb206 J rfl fun U J => ?_
        refine x_pickf' hb206 J (fun U J => ?_) rfl
        refine x_m J rfl fun U J => ?_
        refine xO 4 rfl J rfl fun U J => ?_
        refine x_pickf' rfl J (fun U J => ?_) rfl
        refine wpList_nil ?_
        exact hj6 false G U w (J.sub _ rfl) X
       replace G := iff' hb205 G
       refine xO 4 hb205 J rfl fun U J => ?_
       refine x_pickf' hb205 J (fun U J => ?_) rfl
       refine x_m J rfl fun U J => ?_
       refine xO 4 rfl J rfl fun U J => ?_
       refine x_pickf' rfl J (fun U J => ?_) rfl
       refine x_m J rfl fun U J => ?_
       refine xO 4 rfl J rfl fun U J => ?_
       refine x_pickf' rfl J (fun U J => ?_) rfl
       refine wpList_nil ?_
       exact hj6 false G U w (J.sub _ rfl) X
      refine wp_reg ?_
      refine x_m J rfl fun U J => ?_
      refine x_m J rfl fun U J => ?_
      refine bcase (b := b169) (fun hb208 => ?_) fun hb208 => ?_
      ·replace G := ift hb208 G
       refine xO 4 hb208 J rfl fun U J => ?_
       refine x_pickt' hb208 J (fun U J => ?_) rfl
       refine x_m J rfl fun U J => ?_
       refine wpList_nil ?_
       exact hj5 true G U w (J.sub _ rfl) X
      replace G := iff' hb208 G
      refine x_on' hb208 J ?_ rfl
      refine x_fab' fa44_2 J (fun U J => ?_) rfl
      refine x_on' hb208 J ?_ rfl
      refine x_ld' uu2 (X.cell 0 rfl 2 _ rfl) J (fun U J => ?_) rfl
      refine x_on' hb208 J ?_ rfl
      refine x_m J rfl fun U J => ?_
      refine x_on' hb208 J ?_ rfl
      refine x_v J (r_geI rfl (J.ev rfl) (J.ev rfl)) rfl fun U J => ?_
      refine x_pickf' hb208 J (fun U J => ?_) rfl
      refine x_m J rfl fun U J => ?_
      refine wpList_nil ?_
      exact hj5 (decide (a3 ≤ x187.f2)) G U w (J.sub _ rfl) X
     refine wp_reg ?_
     refine x_m J rfl fun U J => ?_
     refine x_m J rfl fun U J => ?_
     refine bcase (b := b168) (fun hb209 => ?_) fun hb209 => ?_
     ·replace G := ift hb209 G
      refine xO 4 hb209 J rfl fun U J => ?_
      refine x_pickt' hb209 J (fun U J => ?_) rfl
      refine x_m J rfl fun U J => ?_
      refine wpList_nil ?_
      exact hj4 true G U w (J.sub _ rfl) X
     replace G := iff' hb209 G
     refine x_on' hb209 J ?_ rfl
     refine x_fab' fa44_2 J (fun U J => ?_) rfl
     refine x_on' hb209 J ?_ rfl
     refine x_ld' uu2 (X.cell 0 rfl 2 _ rfl) J (fun U J => ?_) rfl
     refine x_on' hb209 J ?_ rfl
     refine x_m J rfl fun U J => ?_
     refine x_on' hb209 J ?_ rfl
     refine x_v J (r_leI rfl (J.ev rfl) (J.ev rfl)) rfl fun U J => ?_
     refine x_pickf' hb209 J (fun U J => ?_) rfl
     refine x_m J rfl fun U J => ?_
     refine wpList_nil ?_
     exact hj4 (decide (x187.f2 ≤ a4)) G U w (J.sub _ rfl) X
    refine wp_reg ?_
    refine x_m J rfl fun U J => ?_
    refine x_m J rfl fun U J => ?_
    refine bcase (b := b167) (fun hb210 => ?_) fun hb210 => ?_
    ·replace G := ift hb210 G
     refine xO 5 hb210 J rfl fun U J => ?_
     refine x_offU' J (fun U J => ?_) rfl
     refine x_offU' J (fun U J => ?_) rfl
     refine x_offU' J (fun U J => ?_) rfl
     refine x_offU' J (fun U J => ?_) rfl
     refine xO 1 hb210 J rfl fun U J => ?_
     refine x_pickt' hb210 J (fun U J => ?_) rfl
     refine x_m J rfl fun U J => ?_
     refine wpList_nil ?_
     exact hj3 true G U w (J.sub _ rfl) X
    replace G := iff' hb210 G
    refine x_on' hb210 J ?_ rfl
    refine x_fab' fa44_0 J (fun U J => ?_) rfl
    refine x_on' hb210 J ?_ rfl
    refine x_ld' uu31 (X.cell 0 rfl 0 _ rfl) J (fun U J => ?_) rfl
    refine x_on' hb210 J ?_ rfl
    refine x_m J rfl fun U J => ?_
    refine x_on' hb210 J ?_ rfl
    refine x_v J (r_geI rfl (J.ev rfl) (J.ev rfl)) rfl fun U J => ?_
    refine x_on' hb210 J ?_ rfl
    refine x_m J rfl fun U J => ?_
    refine bcase (b := decide (a1 ≤ x187.f0)) (fun hb211 => ?_) fun hb211 => ?_
    ·replace G := ift hb211 G
     refine x_on' hb211 J ?_ rfl
     refine x_fab' fa44_0 J (fun U J => ?_) rfl
     refine x_on' hb211 J ?_ rfl
     refine x_ld' uu31 (X.cell 0 rfl 0 _ rfl) J (fun U J => ?_) rfl
     refine x_on' hb211 J ?_ rfl
     refine x_m J rfl fun U J => ?_
     refine x_on' hb211 J ?_ rfl
     refine x_v J (r_ltI rfl (J.ev rfl) (J.ev rfl)) rfl fun U J => ?_
     refine x_on' hb210 J ?_ rfl
     refine x_pickt' hb211 J (fun U J => ?_) rfl
     refine x_pickf' hb210 J (fun U J => ?_) rfl
     refine x_m J rfl fun U J => ?_
     refine wpList_nil ?_
     exact hj3 (decide (x187.f0 < a2)) G U w (J.sub _ rfl) X
    replace G := iff' hb211 G
    refine xO 4 hb211 J rfl fun U J => ?_
    refine x_on' hb210 J ?_ rfl
    refine x_pickf' hb211 J (fun U J => ?_) rfl
    refine x_pickf' hb210 J (fun U J => ?_) rfl
    refine x_m J rfl fun U J => ?_
    refine wpList_nil ?_
    exact hj3 false G U w (J.sub _ rfl) X
   replace G := iff' hb174 G
   refine wp_exit ?_
   cases G
   exact hx156_2 l166 b167 b168 b169 (T156_ _ rfl) A163 n164 c165 U w (J.sub _ rfl) X
  refine wp_reg ?_
  refine x_m J rfl fun U J => ?_
  refine x_m J rfl fun U J => ?_
  refine x_len' uu22 (X.rdl 1 ha0 rfl).2.1 J (fun U J => ?_) rfl
  refine x_v J (r_ltI rfl (J.ev rfl) (J.ev rfl)) rfl fun U J => ?_
  refine x_m J rfl fun U J => ?_
  refine bcase (b := decide (x170 < (a0.length : Int))) (fun hb212 => ?_) fun hb212 => ?_
  ·replace G := ift hb212 G
   refine x_on' hb212 J ?_ rfl
   refine x_m J rfl fun U J => ?_
   refine x_on' hb212 J ?_ rfl
   refine x_m J rfl fun U J => ?_
   refine x_on' hb212 J ?_ rfl
   obtain ⟨x213, h214, G⟩ := ltt_ G
   refine x_v (v := .int .i64 x213) J (rv_i h214 (r_add rfl (J.ev rfl) (J.ev rfl))) rfl fun U J => ?_
   refine x_on' hb212 J ?_ rfl
   refine x_v J (r_ltI rfl (J.ev rfl) (J.ev rfl)) rfl fun U J => ?_
   refine x_pickt' hb212 J (fun U J => ?_) rfl
   refine wpList_nil ?_
   exact hj2 (decide (x170 < x213)) G U w (J.sub _ rfl) X
  replace G := iff' hb212 G
  refine xO 4 hb212 J rfl fun U J => ?_
  refine x_pickf' hb212 J (fun U J => ?_) rfl
  refine wpList_nil ?_
  exact hj2 false G U w (J.sub _ rfl) X
 replace G := iff' hb125 G
 refine wp_exit ?_
 cases G
 exact hx112_0 l120 x121 (T112_ _ rfl) A117 n118 c119 U w (J.sub _ rfl) X
noncomputable section
set_option linter.unusedSimpArgs false
def law07_stretch_b1 (l1079 : (List S44)) : Option ((List S44)) :=
  some l1079
def law07_stretch_x1_0 (l1303 : (List S44)) : Option ((List S44)) :=
  law07_stretch_b1 l1303
def law07_stretch_b2 (x1199 : Int) (l1378 : (List S44)) : Option (((List S44) × Int) ⊕ (((List S44)))) :=
  ltt (IntKind.i64.wrap (x1199 + 1)) fun x1382 => (some (.inl (l1378, x1382)))
def law07_stretch_j1 (a0 : (List S44)) (a1 : Int) (a2 : Int) (l1195 : (List S44)) (x1199 : Int) (b1311 : Bool) : Option (((List S44) × Int) ⊕ (((List S44)))) :=
  if b1311 = true then ((at_ a0 x1199).bind fun x1385 => (ltt (IntKind.u64.wrap (l1195.length : Int)) fun x1390 => (ltt (IntKind.u64.wrap (a1 + x1390)) fun x1392 => ((r06_Form (⟨x1392, x1385.f1, x1385.f2, x1385.f3, x1385.f4⟩ : S44) a2).bind fun y1395 => (if y1395 = true then (chk (l1195.length + [(⟨x1392, x1385.f1, x1385.f2, x1385.f3, x1385.f4⟩ : S44)].length ≤ 140737488355328 / 48) (law07_stretch_b2 x1199 (l1195 ++ [(⟨x1392, x1385.f1, x1385.f2, x1385.f3, x1385.f4⟩ : S44)]))) else (law07_stretch_b2 x1199 l1195)))))) else (some (.inr (l1195)))
def law07_stretch_l1 (a0 : (List S44)) (a1 : Int) (a2 : Int) (l1195 : (List S44)) (x1199 : Int) : Option (((List S44) × Int) ⊕ (((List S44)))) :=
  if (decide (x1199 < (a0.length : Int))) = true then (law07_stretch_j1 a0 a1 a2 l1195 x1199 (decide (x1199 < 150))) else (law07_stretch_j1 a0 a1 a2 l1195 x1199 false)
def law07_stretch (a0 : (List S44)) (a1 : Int) (a2 : Int) : Option ((List S44)) :=
  (loop (fun s => law07_stretch_l1 a0 a1 a2 s.1 s.2) ([], 0)).bind fun t => law07_stretch_x1_0 t
def law07_awake_j1 (y347 : ((Option S83) × Int)) (b358 : Bool) : Option (Bool) :=
  if b358 = true then (some false) else ((segment_Segment_Chunks y347.1).bind fun y362 => (if ((y362.length : Int) == 3) = true then ((at_ y362 0).bind fun x369 => (if (x369.f0 == 64) = true then ((at_ y362 2).bind fun x373 => (if (x373.f0 == 2) = true then (some true) else (some false))) else (some false))) else (some false)))
def law07_awake_b1 (l323 : (List S44)) : Option (Bool) :=
  (segment_Write l323 1).bind fun y332 => ((segment_Open y332.1).bind fun y347 => (if (y332.2 != 0) = true then (law07_awake_j1 y347 true) else (law07_awake_j1 y347 (y347.2 != 0))))
def law07_awake_x1_0 (l429 : (List S44)) : Option (Bool) :=
  law07_awake_b1 l429
def law07_awake_l1 (l405 : (List S44)) (x409 : Int) : Option (((List S44) × Int) ⊕ (((List S44)))) :=
  if (decide (x409 < 130)) = true then (ltt (IntKind.u64.wrap x409) fun x439 => (chk (l405.length + [(⟨x439, 0, x409, [], 0⟩ : S44)].length ≤ 140737488355328 / 48) (ltt (IntKind.i64.wrap (x409 + 1)) fun x446 => (some (.inl (l405 ++ [(⟨x439, 0, x409, [], 0⟩ : S44)], x446)))))) else (some (.inr (l405)))
def law07_awake : Option (Bool) :=
  (loop (fun s => law07_awake_l1 s.1 s.2) ([], 0)).bind fun t => law07_awake_x1_0 t
end
theorem F_law07_stretch {r : World} {L : List HP} {w : World} (a0 : (List S44)) (a1 : Int) (a2 : Int) (A0 : Option Addr) (n0 : Nat) (c0 : Nat) {y : ((List S44))} (G : law07_stretch a0 a1 a2 = some y) (ha0 : RdL L k44 A0 n0 c0 a0) (X : SH r (L) w) :
  Ret Tryd.prog 13 #[.slice A0 n0 c0, .int .u64 a1, .int .i64 a2] w fun v w' => ∃ (B0 : Option Addr) (m0 : Nat) (d0 : Nat), v = .slice B0 m0 d0 ∧ SH r (own k44 44 B0 m0 d0 y :: L) w' := by
 refine enter Tryd.func13 rfl Tryd.ntmps13 [(0, .slice A0 n0 c0), (1, .int .u64 a1), (2, .int .i64 a2)] rfl (by simp) ?_
 intro U J Qf hQ hQn
 unfold law07_stretch at G
 refine ws fun K100 hK100 => ?_
 refine x_m J rfl fun U J => ?_
 refine wn (hK100 _ _ ?_)
 refine ws fun K101 hK101 => ?_
 refine x_m J rfl fun U J => ?_
 refine wn (hK101 _ _ ?_)
 refine wp_seq_k fun K102 hK102 => ?_
 refine ws fun K103 hK103 => ?_
 refine x_m J rfl fun U J => ?_
 refine wn (hK103 _ _ ?_)
 refine wp_block_k fun Kx104 hKx104 => ?_
 have hb1 : ∀ (l105 : (List S44)), law07_stretch_b1 l105 = some y → ∀ (A106 : Option Addr) (n107 : Nat) (c108 : Nat) (U : Act) (w : World), FR 38 [] U [(7, .slice A106 n107 c108)] → SH r (own k44 44 A106 n107 c108 l105 :: L) w → Kx104 U w := by
  intro l105 G A106 n107 c108 U w J X
  unfold law07_stretch_b1 at G
  refine hKx104 _ _ ?_
  refine hK102 _ _ ?_
  refine ws fun K109 hK109 => ?_
  refine x_m J rfl fun U J => ?_
  refine x_m J rfl fun U J => ?_
  refine wn (hK109 _ _ ?_)
  refine wp_ret ?_
  cases G
  refine hQ _ _ ?_
  refine lv Tryd.results13 J rfl ?_
  exact ⟨A106, n107, c108, rfl, X⟩
 obtain ⟨t110, hl110, G⟩ := bnd G
 have hx110_0 : ∀ (l111 : (List S44)), (l111) = t110 → ∀ (A112 : Option Addr) (n113 : Nat) (c110 : Nat) (U : Act) (w : World), FR 38 [] U [(7, .slice A112 n113 c110)] → SH r (own k44 44 A112 n113 c110 l111 :: L) w → Kx104 U w := by
  intro l111 ht A112 n113 c110 U w J X
  subst ht
  replace G : law07_stretch_x1_0 l111 = some y := G
  unfold law07_stretch_x1_0 at G
  exact hb1 l111 G A112 n113 c110 U w (J.sub _ rfl) X
 replace X := SH.nil_own (d := k44) (e := 44) X
 refine wp_loop_fn hl110 (fun s U w => ∃ (A114 : Option Addr) (n115 : Nat) (c116 : Nat), FR 38 [] U [(0, .slice A0 n0 c0), (1, .int .u64 a1), (2, .int .i64 a2), (7, .slice A114 n115 c116), (8, .int .i64 s.2)] ∧ SH r (own k44 44 A114 n115 c116 s.1 :: L) w) ⟨none, 0, 0, J.sub _ rfl, X⟩ ?_
 intro N110 s110 o110 G N110_ T110_ U w hLab
 obtain ⟨l117, x118⟩ := s110
 replace G : law07_stretch_l1 a0 a1 a2 l117 x118 = some o110 := G
 unfold law07_stretch_l1 at G
 try dsimp only at hLab
 obtain ⟨A114, n115, c116, J, X⟩ := hLab
 refine wp_seq_k fun K119 hK119 => ?_
 refine wp_seq_k fun K120 hK120 => ?_
 have hj1 : ∀ (b121 : Bool), law07_stretch_j1 a0 a1 a2 l117 x118 b121 = some o110 → ∀ (U : Act) (w : World), FR 38 [] U [(0, .slice A0 n0 c0), (1, .int .u64 a1), (2, .int .i64 a2), (7, .slice A114 n115 c116), (8, .int .i64 x118), (17, .bool b121)] → SH r (own k44 44 A114 n115 c116 l117 :: L) w → K120 U w := by
  intro b121 G U w J X
  unfold law07_stretch_j1 at G
  refine hK120 _ _ ?_
  refine c_if J rfl (fun hb122 => ?_) fun hb122 => ?_
  ·replace G := ift hb122 G
   refine wp_skip ?_
   refine hK119 _ _ ?_
   refine wp_seq_k fun K123 hK123 => ?_
   refine wp_block_k fun Kx124 hKx124 => ?_
   have hb2 : ∀ (l125 : (List S44)), law07_stretch_b2 x118 l125 = some o110 → ∀ (A126 : Option Addr) (n127 : Nat) (c128 : Nat) (U : Act) (w : World), FR 38 [] U [(0, .slice A0 n0 c0), (1, .int .u64 a1), (2, .int .i64 a2), (7, .slice A126 n127 c128), (8, .int .i64 x118)] → SH r (own k44 44 A126 n127 c128 l125 :: L) w → Kx124 U w := by
    intro l125 G A126 n127 c128 U w J X
    unfold law07_stretch_b2 at G
    refine hKx124 _ _ ?_
    refine hK123 _ _ ?_
    refine wp_reg ?_
    refine x_m J rfl fun U J => ?_
    obtain ⟨x129, h130, G⟩ := ltt_ G
    refine x_v (v := .int .i64 x129) J (rv_i h130 (r_add rfl (J.ev rfl) (J.ev rfl))) rfl fun U J => ?_
    refine x_m J rfl fun U J => ?_
    refine wpList_nil ?_
    cases G
    exact ⟨_, N110_ _ rfl, A126, n127, c128, J.sub _ rfl, X⟩
   refine ws fun K131 hK131 => ?_
   refine x_m J rfl fun U J => ?_
   refine x_m J rfl fun U J => ?_
   obtain ⟨x132, h133, G⟩ := bnd G
   refine x_ia' uu22 sz44 (X.rdl 1 ha0 rfl) h133 J (fun U J => ?_) rfl
   obtain ⟨cs, hV, hc134⟩ := el (X.rdl 1 ha0 rfl) h133
   obtain rfl := hV
   refine x_lda' (cs := [.int .u64 x132.f0, .int .i64 x132.f1, .int .i64 x132.f2, str x132.f3, .float .f64 x132.f4]) uu44 sz44 (fun j u h => by rw [ea_add]; exact hc134 _ _ h) J (fun U J => ?_) rfl
   refine x_alloc' (cs := [.int .u64 0, .int .i64 0, .int .i64 0, str [], .float .f64 0]) zr44 J X (fun g135 U w X J => ?_) rfl
   refine x_stb' 0 sz44 J X rfl (fun  U w X J => ?_) rfl
   refine wn (hK131 _ _ ?_)
   refine ws fun K136 hK136 => ?_
   refine x_m J rfl fun U J => ?_
   refine x_m J rfl fun U J => ?_
   refine x_len' uu22 (X.rd 1 rfl).2.1 J (fun U J => ?_) rfl
   obtain ⟨x137, h138, G⟩ := ltt_ G
   refine x_v (v := .int .u64 x137) J (rv_i h138 (r_convI uu3 uu31 rfl (J.ev rfl))) rfl fun U J => ?_
   obtain ⟨x139, h140, G⟩ := ltt_ G
   refine x_v (v := .int .u64 x139) J (rv_i h140 (r_add rfl (J.ev rfl) (J.ev rfl))) rfl fun U J => ?_
   refine x_fab' fa44_0 J (fun U J => ?_) rfl
   refine x_stb' 0 sz31 J X rfl (fun  U w X J => ?_) rfl
   refine wn (hK136 _ _ ?_)
   refine ws fun K141 hK141 => ?_
   refine x_lda' (ad := ⟨g135, 0, none⟩) (cs := [.int .u64 x139, .int .i64 x132.f1, .int .i64 x132.f2, str x132.f3, .float .f64 x132.f4]) uu44 sz44 (fun j u h => by rw [add_mk, Nat.zero_add]; exact X.cell 0 rfl j u h) J (fun U J => ?_) rfl
   refine x_m J rfl fun U J => ?_
   obtain ⟨y142, h143, G⟩ := bnd G
   refine x_call' en31 J (F_r06_Form (L := blk g135 44 [.int .u64 x139, .int .i64 x132.f1, .int .i64 x132.f2, str x132.f3, .float .f64 x132.f4] :: own k44 44 A114 n115 c116 l117 :: L) (⟨x139, x132.f1, x132.f2, x132.f3, x132.f4⟩ : S44) a2 h143 X) (fun v U w hR J => ?_) rfl
   obtain ⟨rfl, X⟩ := hR
   refine wn (hK141 _ _ ?_)
   refine c_if J rfl (fun hb144 => ?_) fun hb144 => ?_
   ·replace G := ift hb144 G
    refine wp_reg ?_
    refine x_m J rfl fun U J => ?_
    refine x_lda' (ad := ⟨g135, 0, none⟩) (cs := [.int .u64 x139, .int .i64 x132.f1, .int .i64 x132.f2, str x132.f3, .float .f64 x132.f4]) uu44 sz44 (fun j u h => by rw [add_mk, Nat.zero_add]; exact X.cell 0 rfl j u h) J (fun U J => ?_) rfl
    refine x_bsl' (d := k44) (e := 44) (ps := #[(0, .agg #[.int .u64 x139, .int .i64 x132.f1, .int .i64 x132.f2, str x132.f3, .float .f64 x132.f4])]) (cells := [.int .u64 x139, .int .i64 x132.f1, .int .i64 x132.f2, str x132.f3, .float .f64 x132.f4]) (xs := [(⟨x139, x132.f1, x132.f2, x132.f3, x132.f4⟩ : S44)]) (fun w => by kernel_rfl) rfl ⟨[.int .u64 x139, .int .i64 x132.f1, .int .i64 x132.f2, str x132.f3, .float .f64 x132.f4], _, rfl, rfl, rfl⟩ J X (fun g145 U w X J => ?_) rfl
    obtain ⟨h146, G⟩ := chk_some G
    have hr := X.rd 0 rfl
    refine x_app' 2 inf44 uu22 J X hr.1 hr.2.1 h146 rfl (fun A147 n148 c149 U w X J => ?_) rfl
    refine x_m J rfl fun U J => ?_
    refine wpList_nil ?_
    replace X := X.drop 1 |>.drop 1
    exact hb2 (l117 ++ [(⟨x139, x132.f1, x132.f2, x132.f3, x132.f4⟩ : S44)]) G A147 n148 c149 U w (J.sub _ rfl) X
   replace G := iff' hb144 G
   refine wp_skip ?_
   replace X := X.drop 0
   exact hb2 l117 G A114 n115 c116 U w (J.sub _ rfl) X
  replace G := iff' hb122 G
  refine wp_exit ?_
  cases G
  exact hx110_0 l117 (T110_ _ rfl) A114 n115 c116 U w (J.sub _ rfl) X
 refine wp_reg ?_
 refine x_m J rfl fun U J => ?_
 refine x_m J rfl fun U J => ?_
 refine x_len' uu22 (X.rdl 1 ha0 rfl).2.1 J (fun U J => ?_) rfl
 refine x_v J (r_ltI rfl (J.ev rfl) (J.ev rfl)) rfl fun U J => ?_
 refine x_m J rfl fun U J => ?_
 refine bcase (b := decide (x118 < (a0.length : Int))) (fun hb150 => ?_) fun hb150 => ?_
 ·replace G := ift hb150 G
  refine x_on' hb150 J ?_ rfl
  refine x_m J rfl fun U J => ?_
  refine x_on' hb150 J ?_ rfl
  refine x_v J (r_ltI rfl (J.ev rfl) (J.ev rfl)) rfl fun U J => ?_
  refine x_pickt' hb150 J (fun U J => ?_) rfl
  refine wpList_nil ?_
  exact hj1 (decide (x118 < 150)) G U w (J.sub _ rfl) X
 replace G := iff' hb150 G
 refine xO 2 hb150 J rfl fun U J => ?_
 refine x_pickf' hb150 J (fun U J => ?_) rfl
 refine wpList_nil ?_
 exact hj1 false G U w (J.sub _ rfl) X
theorem F_law07_awake {r : World} {L : List HP} {w : World} {Z : Nat → Prop} {wz : World} {y : (Bool)} (G : law07_awake = some y) (hG0 : Imm Z wz (kI .u32) (some ⟨0, 0, none⟩) 16 16 gl_page_table) (X : SH r (zone Z wz :: L) w) :
  Ret Tryd.prog 10 #[] w fun v w' => ∃ (Z' : Nat → Prop) (wz' : World), v = .bool y ∧ Sub Z wz Z' wz' ∧ SH r (zone Z' wz' :: L) w' := by
 refine enter Tryd.func10 rfl Tryd.ntmps10 [] rfl (by simp) ?_
 intro U J Qf hQ hQn
 unfold law07_awake at G
 refine ws fun K100 hK100 => ?_
 refine x_m J rfl fun U J => ?_
 refine wn (hK100 _ _ ?_)
 refine ws fun K101 hK101 => ?_
 refine x_m J rfl fun U J => ?_
 refine wn (hK101 _ _ ?_)
 refine wp_seq_k fun K102 hK102 => ?_
 refine ws fun K103 hK103 => ?_
 refine x_m J rfl fun U J => ?_
 refine wn (hK103 _ _ ?_)
 refine wp_block_k fun Kx104 hKx104 => ?_
 have hb1 : ∀ (l105 : (List S44)), law07_awake_b1 l105 = some y → ∀ (A106 : Option Addr) (n107 : Nat) (c108 : Nat) (U : Act) (w : World), FR 58 [] U [(1, .slice A106 n107 c108)] → SH r (own k44 44 A106 n107 c108 l105 :: zone Z wz :: L) w → Kx104 U w := by
  intro l105 G A106 n107 c108 U w J X
  unfold law07_awake_b1 at G
  refine hKx104 _ _ ?_
  refine hK102 _ _ ?_
  refine ws fun K109 hK109 => ?_
  refine x_m J rfl fun U J => ?_
  replace X := X.pk 1 |>.pk 1
  obtain ⟨Z110, wz111, X, h112, sb331⟩ := SH.freeze (n := n107) (c := c108) (A := A106) X
  obtain ⟨y113, h114, G⟩ := bnd G
  refine x_call' en11 J (F_segment_Write (L := L) l105 1 A106 n107 c108 h114 h112 (Imm.sub hG0 sb331) X) (fun v U w hR J => ?_) rfl
  obtain ⟨Z115, wz116, B117, m118, d119, rfl, h120, X⟩ := hR
  have h121 := Imm.sub h112 h120
  refine x_m J rfl fun U J => ?_
  refine x_v J (r_extract rfl (J.ev rfl) rfl) rfl fun U J => ?_
  refine x_v J (r_extract rfl (J.ev rfl) rfl) rfl fun U J => ?_
  refine x_m J rfl fun U J => ?_
  refine x_m J rfl fun U J => ?_
  refine wn (hK109 _ _ ?_)
  refine ws fun K122 hK122 => ?_
  refine x_m J rfl fun U J => ?_
  replace X := X.pk 1 |>.pk 1
  obtain ⟨Z123, wz124, X, h125, sb345⟩ := SH.freeze (n := m118) (c := d119) (A := B117) X
  have h126 := Imm.sub h121 sb345
  obtain ⟨y127, h128, G⟩ := bnd G
  refine x_call' en14 J (F_segment_Open (L := L) y113.1 B117 m118 d119 h128 h125 (Imm.sub hG0 (Sub.trans (Sub.trans sb331 h120) sb345)) X) (fun v U w hR J => ?_) rfl
  obtain ⟨Z129, wz130, p131, rfl, h132, X⟩ := hR
  have h133 := Imm.sub h126 h132
  have h134 := Imm.sub h125 h132
  refine x_m J rfl fun U J => ?_
  refine x_v J (r_extract rfl (J.ev rfl) rfl) rfl fun U J => ?_
  refine x_v J (r_extract rfl (J.ev rfl) rfl) rfl fun U J => ?_
  refine x_m J rfl fun U J => ?_
  refine x_m J rfl fun U J => ?_
  refine wn (hK122 _ _ ?_)
  refine wp_seq_k fun K135 hK135 => ?_
  refine wp_seq_k fun K136 hK136 => ?_
  have hj1 : ∀ (b137 : Bool), law07_awake_j1 y127 b137 = some y → ∀ (U : Act) (w : World), FR 58 [] U [(5, .pointer p131), (34, .bool b137)] → SH r (optP (obj83 Z129 wz130) p131 y127.1 :: zone Z129 wz130 :: L) w → K136 U w := by
   intro b137 G U w J X
   unfold law07_awake_j1 at G
   refine hK136 _ _ ?_
   refine c_if J rfl (fun hb138 => ?_) fun hb138 => ?_
   ·replace G := ift hb138 G
    refine ws fun K139 hK139 => ?_
    refine x_m J rfl fun U J => ?_
    refine wn (hK139 _ _ ?_)
    refine wp_ret ?_
    replace X := X.drop 0
    cases G
    refine hQ _ _ ?_
    refine lv Tryd.results10 J rfl ?_
    exact ⟨Z129, wz130, rfl, (Sub.trans (Sub.trans (Sub.trans sb331 h120) sb345) h132), X⟩
   replace G := iff' hb138 G
   refine wp_skip ?_
   refine hK135 _ _ ?_
   refine ws fun K140 hK140 => ?_
   refine x_m J rfl fun U J => ?_
   obtain ⟨y141, h142, G⟩ := bnd G
   refine x_call' en15 J (F_segment_Segment_Chunks (L := zone Z129 wz130 :: L) y127.1 p131 h142 0 rfl X) (fun v U w hR J => ?_) rfl
   obtain ⟨B143, m144, d145, rfl, X⟩ := hR
   refine x_m J rfl fun U J => ?_
   refine wn (hK140 _ _ ?_)
   refine ws fun K146 hK146 => ?_
   refine x_m J rfl fun U J => ?_
   refine x_len' uu38 (X.rd 0 rfl).2.1 J (fun U J => ?_) rfl
   refine x_v J (r_eqI rfl (J.ev rfl) (J.ev rfl)) rfl fun U J => ?_
   refine x_m J rfl fun U J => ?_
   refine bcase (b := (y141.length : Int) == 3) (fun hb147 => ?_) fun hb147 => ?_
   ·replace G := ift hb147 G
    refine x_on' hb147 J ?_ rfl
    refine x_m J rfl fun U J => ?_
    refine x_on' hb147 J ?_ rfl
    obtain ⟨x148, h149, G⟩ := bnd G
    refine x_ia' uu38 sz41 (X.rd 0 rfl) h149 J (fun U J => ?_) rfl
    refine x_on' hb147 J ?_ rfl
    refine x_fae (m := (0 : Int).toNat * 8) fa41_0 J (fun U J => ?_) rfl rfl rfl rfl rfl
    refine x_on' hb147 J ?_ rfl
    obtain ⟨cs, hV, hc150⟩ := el (X.rd 0 rfl) h149
    obtain rfl := hV
    refine x_ld' uu3 (hc150 0 _ rfl) J (fun U J => ?_) rfl
    refine x_on' hb147 J ?_ rfl
    refine x_v J (r_eqI rfl (J.ev rfl) (J.ev rfl)) rfl fun U J => ?_
    refine x_pickt' hb147 J (fun U J => ?_) rfl
    refine x_m J rfl fun U J => ?_
    refine bcase (b := x148.f0 == 64) (fun hb151 => ?_) fun hb151 => ?_
    ·replace G := ift hb151 G
     refine x_on' hb151 J ?_ rfl
     refine x_m J rfl fun U J => ?_
     refine x_on' hb151 J ?_ rfl
     obtain ⟨x152, h153, G⟩ := bnd G
     refine x_ia' uu38 sz41 (X.rd 0 rfl) h153 J (fun U J => ?_) rfl
     refine x_on' hb151 J ?_ rfl
     refine x_fae (m := (2 : Int).toNat * 8) fa41_0 J (fun U J => ?_) rfl rfl rfl rfl rfl
     refine x_on' hb151 J ?_ rfl
     obtain ⟨cs, hV, hc154⟩ := el (X.rd 0 rfl) h153
     obtain rfl := hV
     refine x_ld' uu3 (hc154 0 _ rfl) J (fun U J => ?_) rfl
     refine x_on' hb151 J ?_ rfl
     refine x_v J (r_eqI rfl (J.ev rfl) (J.ev rfl)) rfl fun U J => ?_
     refine x_pickt' hb151 J (fun U J => ?_) rfl
     refine x_m J rfl fun U J => ?_
     refine bcase (b := x152.f0 == 2) (fun hb155 => ?_) fun hb155 => ?_
     ·replace G := ift hb155 G
      refine x_pickt' hb155 J (fun U J => ?_) rfl
      refine x_m J rfl fun U J => ?_
      refine x_pickt' rfl J (fun U J => ?_) rfl
      refine x_m J rfl fun U J => ?_
      refine wn (hK146 _ _ ?_)
      refine wp_ret ?_
      replace X := X.drop 0 |>.drop 0
      cases G
      refine hQ _ _ ?_
      refine lv Tryd.results10 J rfl ?_
      exact ⟨Z129, wz130, rfl, (Sub.trans (Sub.trans (Sub.trans sb331 h120) sb345) h132), X⟩
     replace G := iff' hb155 G
     refine x_pickf' hb155 J (fun U J => ?_) rfl
     refine x_m J rfl fun U J => ?_
     refine x_pickf' rfl J (fun U J => ?_) rfl
     refine x_m J rfl fun U J => ?_
     refine wn (hK146 _ _ ?_)
     refine wp_ret ?_
     replace X := X.drop 0 |>.drop 0
     cases G
     refine hQ _ _ ?_
     refine lv Tryd.results10 J rfl ?_
     exact ⟨Z129, wz130, rfl, (Sub.trans (Sub.trans (Sub.trans sb331 h120) sb345) h132), X⟩
    replace G := iff' hb151 G
    refine xO 5 hb151 J rfl fun U J => ?_
    refine x_pickf' hb151 J (fun U J => ?_) rfl
    refine x_m J rfl fun U J => ?_
    refine x_pickf' rfl J (fun U J => ?_) rfl
    refine x_m J rfl fun U J => ?_
    refine x_pickf' rfl J (fun U J => ?_) rfl
    refine x_m J rfl fun U J => ?_
    refine wn (hK146 _ _ ?_)
    refine wp_ret ?_
    replace X := X.drop 0 |>.drop 0
    cases G
    refine hQ _ _ ?_
    refine lv Tryd.results10 J rfl ?_
    exact ⟨Z129, wz130, rfl, (Sub.trans (Sub.trans (Sub.trans sb331 h120) sb345) h132), X⟩
   replace G := iff' hb147 G
   refine xO 5 hb147 J rfl fun U J => ?_
   refine x_pickf' hb147 J (fun U J => ?_) rfl
   refine x_m J rfl fun U J => ?_
   refine xO 5 rfl J rfl fun U J => ?_
   refine x_pickf' rfl J (fun U J => ?_) rfl
   refine x_m J rfl fun U J => ?_
   refine x_pickf' rfl J (fun U J => ?_) rfl
   refine x_m J rfl fun U J => ?_
   refine x_pickf' rfl J (fun U J => ?_) rfl
   refine x_m J rfl fun U J => ?_
   refine wn (hK146 _ _ ?_)
   refine wp_ret ?_
   replace X := X.drop 0 |>.drop 0
   cases G
   refine hQ _ _ ?_
   refine lv Tryd.results10 J rfl ?_
   exact ⟨Z129, wz130, rfl, (Sub.trans (Sub.trans (Sub.trans sb331 h120) sb345) h132), X⟩
  refine wp_reg ?_
  refine x_m J rfl fun U J => ?_
  refine x_v J (r_neI rfl (J.ev rfl) (J.ev rfl)) rfl fun U J => ?_
  refine x_m J rfl fun U J => ?_
  refine bcase (b := y113.2 != 0) (fun hb156 => ?_) fun hb156 => ?_
  ·replace G := ift hb156 G
   refine xO 2 hb156 J rfl fun U J => ?_
   refine x_pickt' hb156 J (fun U J => ?_) rfl
   refine wpList_nil ?_
   exact hj1 true G U w (J.sub _ rfl) X
  replace G := iff' hb156 G
  refine x_on' hb156 J ?_ rfl
  refine x_m J rfl fun U J => ?_
  refine x_on' hb156 J ?_ rfl
  refine x_v J (r_neI rfl (J.ev rfl) (J.ev rfl)) rfl fun U J => ?_
  refine x_pickf' hb156 J (fun U J => ?_) rfl
  refine wpList_nil ?_
  exact hj1 (y127.2 != 0) G U w (J.sub _ rfl) X
 obtain ⟨t157, hl157, G⟩ := bnd G
 have hx157_0 : ∀ (l158 : (List S44)), (l158) = t157 → ∀ (A159 : Option Addr) (n160 : Nat) (c157 : Nat) (U : Act) (w : World), FR 58 [] U [(1, .slice A159 n160 c157)] → SH r (own k44 44 A159 n160 c157 l158 :: zone Z wz :: L) w → Kx104 U w := by
  intro l158 ht A159 n160 c157 U w J X
  subst ht
  replace G : law07_awake_x1_0 l158 = some y := G
  unfold law07_awake_x1_0 at G
  exact hb1 l158 G A159 n160 c157 U w (J.sub _ rfl) X
 replace X := SH.nil_own (d := k44) (e := 44) X
 refine wp_loop_fn hl157 (fun s U w => ∃ (A161 : Option Addr) (n162 : Nat) (c163 : Nat), FR 58 [] U [(1, .slice A161 n162 c163), (2, .int .i64 s.2)] ∧ SH r (own k44 44 A161 n162 c163 s.1 :: zone Z wz :: L) w) ⟨none, 0, 0, J.sub _ rfl, X⟩ ?_
 intro N157 s157 o157 G N157_ T157_ U w hLab
 obtain ⟨l164, x165⟩ := s157
 replace G : law07_awake_l1 l164 x165 = some o157 := G
 unfold law07_awake_l1 at G
 try dsimp only at hLab
 obtain ⟨A161, n162, c163, J, X⟩ := hLab
 refine wp_seq_k fun K166 hK166 => ?_
 refine ws fun K167 hK167 => ?_
 refine x_m J rfl fun U J => ?_
 refine x_v J (r_ltI rfl (J.ev rfl) (J.ev rfl)) rfl fun U J => ?_
 refine wn (hK167 _ _ ?_)
 refine c_if J rfl (fun hb168 => ?_) fun hb168 => ?_
 ·replace G := ift hb168 G
  refine wp_skip ?_
  refine hK166 _ _ ?_
  refine wp_seq_k fun K169 hK169 => ?_
  refine wp_block_k fun Kx170 hKx170 => ?_
  refine wp_reg ?_
  refine x_m J rfl fun U J => ?_
  refine x_m J rfl fun U J => ?_
  obtain ⟨x171, h172, G⟩ := ltt_ G
  refine x_v (v := .int .u64 x171) J (rv_i h172 (r_convI uu3 uu31 rfl (J.ev rfl))) rfl fun U J => ?_
  refine x_m J rfl fun U J => ?_
  refine x_v (v := .agg #[.int .u64 x171, .int .i64 0, .int .i64 x165, str [], .float .f64 0]) J (r_build (ps := #[(0, .int .u64 x171), (2, .int .i64 x165)]) rfl (mapev2 J rfl) (fun w => by kernel_rfl)) rfl fun U J => ?_
  refine x_bsl' (d := k44) (e := 44) (ps := #[(0, .agg #[.int .u64 x171, .int .i64 0, .int .i64 x165, str [], .float .f64 0])]) (cells := [.int .u64 x171, .int .i64 0, .int .i64 x165, str [], .float .f64 0]) (xs := [(⟨x171, 0, x165, [], 0⟩ : S44)]) (fun w => by kernel_rfl) rfl ⟨[.int .u64 x171, .int .i64 0, .int .i64 x165, str [], .float .f64 0], _, rfl, rfl, rfl⟩ J X (fun g173 U w X J => ?_) rfl
  obtain ⟨h174, G⟩ := chk_some G
  have hr := X.rd 0 rfl
  refine x_app' 1 inf44 uu22 J X hr.1 hr.2.1 h174 rfl (fun A175 n176 c177 U w X J => ?_) rfl
  refine x_m J rfl fun U J => ?_
  refine wpList_nil ?_
  refine hKx170 _ _ ?_
  refine hK169 _ _ ?_
  refine wp_reg ?_
  refine x_m J rfl fun U J => ?_
  obtain ⟨x178, h179, G⟩ := ltt_ G
  refine x_v (v := .int .i64 x178) J (rv_i h179 (r_add rfl (J.ev rfl) (J.ev rfl))) rfl fun U J => ?_
  refine x_m J rfl fun U J => ?_
  refine wpList_nil ?_
  replace X := X.drop 1
  cases G
  exact ⟨_, N157_ _ rfl, A175, n176, c177, J.sub _ rfl, X⟩
 replace G := iff' hb168 G
 refine wp_exit ?_
 cases G
 exact hx157_0 l164 (T157_ _ rfl) A161 n162 c163 U w (J.sub _ rfl) X
noncomputable section
set_option linter.unusedSimpArgs false
def law07_SegmentScans_b1 (a1 : Int) (x128 : Int) (y133 : ((List S44))) (y165 : ((Option S83) × Int)) (y181 : (Int × Int)) (y184 : ((List S44) × Int × Int)) (y194 : ((List S44) × Int)) : Option (Bool) :=
  if (y184.2.2 == 0) = true then ((r06_SameAll y184.1 y194.1).bind fun y561 => (if y561 = true then (if (y184.2.1 == y194.2) = true then ((segment_Segment_Parts y165.1).bind fun y565 => (if (y565 == x128) = true then (ltt (IntKind.u64.wrap a1) fun x568 => (if (y181.1 == x568) = true then (ltt (IntKind.u64.wrap (y133.length : Int)) fun x571 => (ltt (IntKind.u64.wrap (x568 + x571)) fun x573 => (some (y181.2 == x573)))) else (some false))) else (some false))) else (some false)) else (some false))) else (some false)
def law07_SegmentScans_x1_0 (a1 : Int) (x128 : Int) (y133 : ((List S44))) (y165 : ((Option S83) × Int)) (y181 : (Int × Int)) (y184 : ((List S44) × Int × Int)) (y194 : ((List S44) × Int)) : Option (Bool) :=
  law07_SegmentScans_b1 a1 x128 y133 y165 y181 y184 y194
def law07_SegmentScans_j3 (x614 : Int) (b674 : Bool) : Option ((Int) ⊕ ((Unit) ⊕ (Bool))) :=
  if b674 = true then (some (.inr (.inr false))) else (ltt (IntKind.i64.wrap (x614 + 1)) fun x677 => (some (.inl (x677))))
def law07_SegmentScans_l1 (a3 : S33) (y133 : ((List S44))) (x614 : Int) : Option ((Int) ⊕ ((Unit) ⊕ (Bool))) :=
  if (decide (x614 < (y133.length : Int))) = true then ((at_ y133 x614).bind fun x679 => ((segment_Filter_Wants a3 x679).bind fun y683 => (if (decide (a3.f0 ≤ x679.f0)) = true then (if (decide (x679.f0 < a3.f1)) = true then (if (decide (a3.f2 ≤ x679.f2)) = true then (law07_SegmentScans_j3 x614 (!(y683 == (decide (x679.f2 ≤ a3.f3))))) else (law07_SegmentScans_j3 x614 (!(y683 == false)))) else (law07_SegmentScans_j3 x614 (!(y683 == false)))) else (law07_SegmentScans_j3 x614 (!(y683 == false)))))) else (some (.inr (.inl ())))
def law07_SegmentScans_j2 (a1 : Int) (a3 : S33) (x128 : Int) (y133 : ((List S44))) (y165 : ((Option S83) × Int)) (b177 : Bool) : Option (Bool) :=
  if b177 = true then (some false) else ((segment_Segment_Range y165.1).bind fun y181 => ((segment_Segment_Scan y165.1 a3).bind fun y184 => ((r07_Wants y133 a3.f0 a3.f1 a3.f2 a3.f3).bind fun y194 => ((loop (fun s => law07_SegmentScans_l1 a3 y133 s) (0)).bind fun t => match t with | (.inl t) => law07_SegmentScans_x1_0 a1 x128 y133 y165 y181 y184 y194 | (.inr t) => some t))))
def law07_SegmentScans_j1 (a0 : (List S44)) (a1 : Int) (a2 : Int) (a3 : S33) (b116 : Bool) : Option (Bool) :=
  if b116 = true then ((law07_awake).bind fun y119 => (some y119)) else (ltt (IntKind.i64.wrap a2) fun x126 => (ltt (IntKind.i64.wrap (1 + (x126.tmod 8))) fun x128 => (ltt (IntKind.u64.wrap a1) fun x131 => ((law07_stretch a0 x131 x128).bind fun y133 => (if ((y133.length : Int) == 0) = true then (some true) else ((segment_Write y133 x128).bind fun y148 => ((segment_Open y148.1).bind fun y165 => (if (y148.2 != 0) = true then (law07_SegmentScans_j2 a1 a3 x128 y133 y165 true) else (law07_SegmentScans_j2 a1 a3 x128 y133 y165 (y165.2 != 0))))))))))
def law07_SegmentScans (a0 : (List S44)) (a1 : Int) (a2 : Int) (a3 : S33) : Option (Bool) :=
  (law07_awake).bind fun y693 => (if (!y693) = true then (law07_SegmentScans_j1 a0 a1 a2 a3 true) else (law07_SegmentScans_j1 a0 a1 a2 a3 (decide (300 < (a0.length : Int)))))
end
theorem F_law07_SegmentScans {r : World} {L : List HP} {w : World} {Z : Nat → Prop} {wz : World} (a0 : (List S44)) (a1 : Int) (a2 : Int) (a3 : S33) (A0 : Option Addr) (n0 : Nat) (c0 : Nat) {y : (Bool)} (G : law07_SegmentScans a0 a1 a2 a3 = some y) (ha0 : Imm Z wz k44 A0 n0 c0 a0) (hG0 : Imm Z wz (kI .u32) (some ⟨0, 0, none⟩) 16 16 gl_page_table) (X : SH r (zone Z wz :: L) w) :
  Ret Tryd.prog 8 #[.slice A0 n0 c0, .int .u32 a1, .int .u8 a2, .agg #[.int .u64 a3.f0, .int .u64 a3.f1, .int .i64 a3.f2, .int .i64 a3.f3]] w fun v w' => ∃ (Z' : Nat → Prop) (wz' : World), v = .bool y ∧ Sub Z wz Z' wz' ∧ SH r (zone Z' wz' :: L) w' := by
 refine enter Tryd.func8 rfl Tryd.ntmps8 [(0, .slice A0 n0 c0), (1, .int .u32 a1), (2, .int .u8 a2), (3, .agg #[.int .u64 a3.f0, .int .u64 a3.f1, .int .i64 a3.f2, .int .i64 a3.f3])] rfl (by simp) ?_
 intro U J Qf hQ hQn
 unfold law07_SegmentScans at G
 refine ws fun K100 hK100 => ?_
 refine x_box' J X (fun g101 U w X J => ?_) rfl
 refine x_m J rfl fun U J => ?_
 refine wn (hK100 _ _ ?_)
 refine wp_seq_k fun K102 hK102 => ?_
 refine wp_seq_k fun K103 hK103 => ?_
 have hj1 : ∀ (b104 : Bool), law07_SegmentScans_j1 a0 a1 a2 a3 b104 = some y → ∀ (Z105 : Nat → Prop) (wz106 : World) (h107 : Sub Z wz Z105 wz106) (h108 : Imm Z105 wz106 k44 A0 n0 c0 a0) (U : Act) (w : World), FR 170 [] U [(0, .slice A0 n0 c0), (1, .int .u32 a1), (2, .int .u8 a2), (7, (pP g101)), (29, .bool b104)] → SH r (blk g101 33 [.int .u64 a3.f0, .int .u64 a3.f1, .int .i64 a3.f2, .int .i64 a3.f3] :: zone Z105 wz106 :: L) w → K103 U w := by
  intro b104 G Z105 wz106 h107 h108 U w J X
  unfold law07_SegmentScans_j1 at G
  refine hK103 _ _ ?_
  refine c_if J rfl (fun hb109 => ?_) fun hb109 => ?_
  ·replace G := ift hb109 G
   refine ws fun K110 hK110 => ?_
   replace X := X.pk 1
   obtain ⟨y111, h112, G⟩ := bnd G
   refine x_call' en10 J (F_law07_awake (L := blk g101 33 [.int .u64 a3.f0, .int .u64 a3.f1, .int .i64 a3.f2, .int .i64 a3.f3] :: L) h112 (Imm.sub hG0 h107) X) (fun v U w hR J => ?_) rfl
   obtain ⟨Z113, wz114, rfl, h115, X⟩ := hR
   have h116 := Imm.sub h108 h115
   refine x_m J rfl fun U J => ?_
   refine wn (hK110 _ _ ?_)
   refine wp_ret ?_
   replace X := X.drop 1
   cases G
   refine hQ _ _ ?_
   refine lv Tryd.results8 J rfl ?_
   exact ⟨Z113, wz114, rfl, (Sub.trans h107 h115), X⟩
  replace G := iff' hb109 G
  refine wp_skip ?_
  refine hK102 _ _ ?_
  refine ws fun K117 hK117 => ?_
  refine x_m J rfl fun U J => ?_
  obtain ⟨x118, h119, G⟩ := ltt_ G
  refine x_v (v := .int .i64 x118) J (rv_i h119 (r_convI uu5 uu3 rfl (J.ev rfl))) rfl fun U J => ?_
  refine x_v J (r_rem rfl (J.ev rfl) (J.ev rfl) (by decide)) rfl fun U J => ?_
  obtain ⟨x120, h121, G⟩ := ltt_ G
  refine x_v (v := .int .i64 x120) J (rv_i h121 (r_add rfl (J.ev rfl) (J.ev rfl))) rfl fun U J => ?_
  refine x_m J rfl fun U J => ?_
  refine wn (hK117 _ _ ?_)
  refine ws fun K122 hK122 => ?_
  refine x_m J rfl fun U J => ?_
  refine x_m J rfl fun U J => ?_
  obtain ⟨x123, h124, G⟩ := ltt_ G
  refine x_v (v := .int .u64 x123) J (rv_i h124 (r_convI uu48 uu31 rfl (J.ev rfl))) rfl fun U J => ?_
  refine x_m J rfl fun U J => ?_
  obtain ⟨y125, h126, G⟩ := bnd G
  refine x_call' en13 J (F_law07_stretch (L := blk g101 33 [.int .u64 a3.f0, .int .u64 a3.f1, .int .i64 a3.f2, .int .i64 a3.f3] :: zone Z105 wz106 :: L) a0 x123 x120 A0 n0 c0 h126 (h108.rdl 1 rfl) X) (fun v U w hR J => ?_) rfl
  obtain ⟨B127, m128, d129, rfl, X⟩ := hR
  refine x_m J rfl fun U J => ?_
  refine wn (hK122 _ _ ?_)
  refine wp_seq_k fun K130 hK130 => ?_
  refine ws fun K131 hK131 => ?_
  refine x_m J rfl fun U J => ?_
  refine x_len' uu22 (X.rd 0 rfl).2.1 J (fun U J => ?_) rfl
  refine x_v J (r_eqI rfl (J.ev rfl) (J.ev rfl)) rfl fun U J => ?_
  refine wn (hK131 _ _ ?_)
  refine c_if J rfl (fun hb132 => ?_) fun hb132 => ?_
  ·replace G := ift hb132 G
   refine ws fun K133 hK133 => ?_
   refine x_m J rfl fun U J => ?_
   refine wn (hK133 _ _ ?_)
   refine wp_ret ?_
   replace X := X.drop 0 |>.drop 0
   cases G
   refine hQ _ _ ?_
   refine lv Tryd.results8 J rfl ?_
   exact ⟨Z105, wz106, rfl, h107, X⟩
  replace G := iff' hb132 G
  refine wp_skip ?_
  refine hK130 _ _ ?_
  refine ws fun K134 hK134 => ?_
  refine x_m J rfl fun U J => ?_
  refine x_m J rfl fun U J => ?_
  replace X := X.pk 2 |>.pk 1
  obtain ⟨Z135, wz136, X, h137, sb146⟩ := SH.freeze (n := m128) (c := d129) (A := B127) X
  have h138 := Imm.sub h108 sb146
  obtain ⟨y139, h140, G⟩ := bnd G
  refine x_call' en11 J (F_segment_Write (L := blk g101 33 [.int .u64 a3.f0, .int .u64 a3.f1, .int .i64 a3.f2, .int .i64 a3.f3] :: L) y125 x120 B127 m128 d129 h140 h137 (Imm.sub hG0 (Sub.trans h107 sb146)) X) (fun v U w hR J => ?_) rfl
  obtain ⟨Z141, wz142, B143, m144, d145, rfl, h146, X⟩ := hR
  have h147 := Imm.sub h138 h146
  have h148 := Imm.sub h137 h146
  refine x_m J rfl fun U J => ?_
  refine x_v J (r_extract rfl (J.ev rfl) rfl) rfl fun U J => ?_
  refine x_v J (r_extract rfl (J.ev rfl) rfl) rfl fun U J => ?_
  refine x_m J rfl fun U J => ?_
  refine x_m J rfl fun U J => ?_
  refine wn (hK134 _ _ ?_)
  refine ws fun K149 hK149 => ?_
  refine x_m J rfl fun U J => ?_
  replace X := X.pk 1 |>.pk 1
  obtain ⟨Z150, wz151, X, h152, sb162⟩ := SH.freeze (n := m144) (c := d145) (A := B143) X
  have h153 := Imm.sub h147 sb162
  have h154 := Imm.sub h148 sb162
  obtain ⟨y155, h156, G⟩ := bnd G
  refine x_call' en14 J (F_segment_Open (L := blk g101 33 [.int .u64 a3.f0, .int .u64 a3.f1, .int .i64 a3.f2, .int .i64 a3.f3] :: L) y139.1 B143 m144 d145 h156 h152 (Imm.sub hG0 (Sub.trans (Sub.trans (Sub.trans h107 sb146) h146) sb162)) X) (fun v U w hR J => ?_) rfl
  obtain ⟨Z157, wz158, p159, rfl, h160, X⟩ := hR
  have h161 := Imm.sub h153 h160
  have h162 := Imm.sub h154 h160
  have h163 := Imm.sub h152 h160
  refine x_m J rfl fun U J => ?_
  refine x_v J (r_extract rfl (J.ev rfl) rfl) rfl fun U J => ?_
  refine x_v J (r_extract rfl (J.ev rfl) rfl) rfl fun U J => ?_
  refine x_m J rfl fun U J => ?_
  refine x_m J rfl fun U J => ?_
  refine wn (hK149 _ _ ?_)
  refine wp_seq_k fun K164 hK164 => ?_
  refine wp_seq_k fun K165 hK165 => ?_
  have hj2 : ∀ (b166 : Bool), law07_SegmentScans_j2 a1 a3 x120 y125 y155 b166 = some y → ∀ (U : Act) (w : World), FR 170 [] U [(1, .int .u32 a1), (7, (pP g101)), (9, .int .i64 x120), (10, .slice B127 m128 d129), (13, .pointer p159), (59, .bool b166)] → SH r (blk g101 33 [.int .u64 a3.f0, .int .u64 a3.f1, .int .i64 a3.f2, .int .i64 a3.f3] :: optP (obj83 Z157 wz158) p159 y155.1 :: zone Z157 wz158 :: L) w → K165 U w := by
   intro b166 G U w J X
   unfold law07_SegmentScans_j2 at G
   refine hK165 _ _ ?_
   refine c_if J rfl (fun hb167 => ?_) fun hb167 => ?_
   ·replace G := ift hb167 G
    refine ws fun K168 hK168 => ?_
    refine x_m J rfl fun U J => ?_
    refine wn (hK168 _ _ ?_)
    refine wp_ret ?_
    replace X := X.drop 0 |>.drop 0
    cases G
    refine hQ _ _ ?_
    refine lv Tryd.results8 J rfl ?_
    exact ⟨Z157, wz158, rfl, (Sub.trans (Sub.trans (Sub.trans (Sub.trans h107 sb146) h146) sb162) h160), X⟩
   replace G := iff' hb167 G
   refine wp_skip ?_
   refine hK164 _ _ ?_
   refine ws fun K169 hK169 => ?_
   refine x_m J rfl fun U J => ?_
   replace X := X.pk 1
   obtain ⟨y170, h171, G⟩ := bnd G
   refine x_call' en20 J (F_segment_Segment_Range (L := blk g101 33 [.int .u64 a3.f0, .int .u64 a3.f1, .int .i64 a3.f2, .int .i64 a3.f3] :: zone Z157 wz158 :: L) y155.1 p159 h171 1 rfl X) (fun v U w hR J => ?_) rfl
   obtain ⟨rfl, X⟩ := hR
   refine x_m J rfl fun U J => ?_
   refine x_v J (r_extract rfl (J.ev rfl) rfl) rfl fun U J => ?_
   refine x_v J (r_extract rfl (J.ev rfl) rfl) rfl fun U J => ?_
   refine x_m J rfl fun U J => ?_
   refine x_m J rfl fun U J => ?_
   refine wn (hK169 _ _ ?_)
   refine ws fun K172 hK172 => ?_
   refine x_m J rfl fun U J => ?_
   refine x_lda' (ad := ⟨g101, 0, none⟩) (cs := [.int .u64 a3.f0, .int .u64 a3.f1, .int .i64 a3.f2, .int .i64 a3.f3]) uu33 sz33 (fun j u h => by rw [add_mk, Nat.zero_add]; exact X.cell 1 rfl j u h) J (fun U J => ?_) rfl
   replace X := X.pk 2 |>.pk 1
   obtain ⟨y173, h174, G⟩ := bnd G
   refine x_call' en18 J (F_segment_Segment_Scan (L := blk g101 33 [.int .u64 a3.f0, .int .u64 a3.f1, .int .i64 a3.f2, .int .i64 a3.f3] :: L) y155.1 a3 p159 h174 (Imm.sub hG0 (Sub.trans (Sub.trans (Sub.trans (Sub.trans h107 sb146) h146) sb162) h160)) X) (fun v U w hR J => ?_) rfl
   obtain ⟨Z175, wz176, B177, m178, d179, rfl, h180, X⟩ := hR
   have h181 := Imm.sub h162 h180
   refine x_m J rfl fun U J => ?_
   refine x_v J (r_extract rfl (J.ev rfl) rfl) rfl fun U J => ?_
   refine x_v J (r_extract rfl (J.ev rfl) rfl) rfl fun U J => ?_
   refine x_v J (r_extract rfl (J.ev rfl) rfl) rfl fun U J => ?_
   refine x_m J rfl fun U J => ?_
   refine x_m J rfl fun U J => ?_
   refine x_m J rfl fun U J => ?_
   refine wn (hK172 _ _ ?_)
   refine ws fun K182 hK182 => ?_
   refine x_m J rfl fun U J => ?_
   refine x_fab' fa33_0 J (fun U J => ?_) rfl
   refine x_ld' uu31 (X.cell 3 rfl 0 _ rfl) J (fun U J => ?_) rfl
   refine x_fab' fa33_1 J (fun U J => ?_) rfl
   refine x_ld' uu31 (X.cell 3 rfl 1 _ rfl) J (fun U J => ?_) rfl
   refine x_fab' fa33_2 J (fun U J => ?_) rfl
   refine x_ld' uu2 (X.cell 3 rfl 2 _ rfl) J (fun U J => ?_) rfl
   refine x_fab' fa33_3 J (fun U J => ?_) rfl
   refine x_ld' uu2 (X.cell 3 rfl 3 _ rfl) J (fun U J => ?_) rfl
   obtain ⟨y183, h184, G⟩ := bnd G
   refine x_call' en21 J (F_r07_Wants (L := own k44 44 B177 m178 d179 y173.1 :: optP (obj83 Z175 wz176) p159 y155.1 :: zone Z175 wz176 :: blk g101 33 [.int .u64 a3.f0, .int .u64 a3.f1, .int .i64 a3.f2, .int .i64 a3.f3] :: L) y125 a3.f0 a3.f1 a3.f2 a3.f3 B127 m128 d129 h184 (h181.rdl 2 rfl) X) (fun v U w hR J => ?_) rfl
   obtain ⟨B185, m186, d187, rfl, X⟩ := hR
   refine x_m J rfl fun U J => ?_
   refine x_v J (r_extract rfl (J.ev rfl) rfl) rfl fun U J => ?_
   refine x_v J (r_extract rfl (J.ev rfl) rfl) rfl fun U J => ?_
   refine x_m J rfl fun U J => ?_
   refine x_m J rfl fun U J => ?_
   refine wn (hK182 _ _ ?_)
   refine wp_seq_k fun K188 hK188 => ?_
   refine ws fun K189 hK189 => ?_
   refine x_m J rfl fun U J => ?_
   refine wn (hK189 _ _ ?_)
   refine wp_block_k fun Kx190 hKx190 => ?_
   have hb1 : law07_SegmentScans_b1 a1 x120 y125 y155 y170 y173 y183 = some y → ∀ (U : Act) (w : World), FR 170 [] U [(1, .int .u32 a1), (9, .int .i64 x120), (10, .slice B127 m128 d129), (13, .pointer p159), (15, .int .u64 y170.1), (16, .int .u64 y170.2), (17, .slice B177 m178 d179), (18, .int .i64 y173.2.1), (19, .int .i64 y173.2.2), (20, .slice B185 m186 d187), (21, .int .i64 y183.2)] → SH r (optP (obj83 Z175 wz176) p159 y155.1 :: own k44 44 B177 m178 d179 y173.1 :: own k44 44 B185 m186 d187 y183.1 :: zone Z175 wz176 :: L) w → Kx190 U w := by
    intro G U w J X
    unfold law07_SegmentScans_b1 at G
    refine hKx190 _ _ ?_
    refine hK188 _ _ ?_
    refine ws fun K191 hK191 => ?_
    refine x_m J rfl fun U J => ?_
    refine x_v J (r_eqI rfl (J.ev rfl) (J.ev rfl)) rfl fun U J => ?_
    refine x_m J rfl fun U J => ?_
    refine bcase (b := y173.2.2 == 0) (fun hb192 => ?_) fun hb192 => ?_
    ·replace G := ift hb192 G
     refine x_on' hb192 J ?_ rfl
     refine x_m J rfl fun U J => ?_
     refine x_on' hb192 J ?_ rfl
     refine x_m J rfl fun U J => ?_
     refine x_on' hb192 J ?_ rfl
     obtain ⟨y193, h194, G⟩ := bnd G
     refine x_call' en19 J (F_r06_SameAll (L := optP (obj83 Z175 wz176) p159 y155.1 :: own k44 44 B177 m178 d179 y173.1 :: own k44 44 B185 m186 d187 y183.1 :: zone Z175 wz176 :: L) y173.1 y183.1 B177 m178 d179 B185 m186 d187 h194 (RdL.own 1 rfl (X.dropN 0)) (RdL.own 2 rfl (X.dropN 0)) X) (fun v U w hR J => ?_) rfl
     obtain ⟨rfl, X⟩ := hR
     refine x_pickt' hb192 J (fun U J => ?_) rfl
     refine x_m J rfl fun U J => ?_
     refine bcase (b := y193) (fun hb195 => ?_) fun hb195 => ?_
     ·replace G := ift hb195 G
      refine x_on' hb195 J ?_ rfl
      refine x_m J rfl fun U J => ?_
      refine x_on' hb195 J ?_ rfl
      refine x_m J rfl fun U J => ?_
      refine x_on' hb195 J ?_ rfl
      refine x_v J (r_eqI rfl (J.ev rfl) (J.ev rfl)) rfl fun U J => ?_
      refine x_pickt' hb195 J (fun U J => ?_) rfl
      refine x_m J rfl fun U J => ?_
      refine bcase (b := y173.2.1 == y183.2) (fun hb196 => ?_) fun hb196 => ?_
      ·replace G := ift hb196 G
       refine x_on' hb196 J ?_ rfl
       refine x_m J rfl fun U J => ?_
       refine x_on' hb196 J ?_ rfl
       obtain ⟨y197, h198, G⟩ := bnd G
       refine x_call' en22 J (F_segment_Segment_Parts (L := own k44 44 B177 m178 d179 y173.1 :: own k44 44 B185 m186 d187 y183.1 :: zone Z175 wz176 :: L) y155.1 p159 h198 2 rfl X) (fun v U w hR J => ?_) rfl
       obtain ⟨rfl, X⟩ := hR
       refine x_on' hb196 J ?_ rfl
       refine x_m J rfl fun U J => ?_
       refine x_on' hb196 J ?_ rfl
       refine x_v J (r_eqI rfl (J.ev rfl) (J.ev rfl)) rfl fun U J => ?_
       refine x_pickt' hb196 J (fun U J => ?_) rfl
       refine x_m J rfl fun U J => ?_
       refine bcase (b := y197 == x120) (fun hb199 => ?_) fun hb199 => ?_
       ·replace G := ift hb199 G
        refine x_on' hb199 J ?_ rfl
        refine x_m J rfl fun U J => ?_
        refine x_on' hb199 J ?_ rfl
        refine x_m J rfl fun U J => ?_
        refine x_on' hb199 J ?_ rfl
        obtain ⟨x200, h201, G⟩ := ltt_ G
        refine x_v (v := .int .u64 x200) J (rv_i h201 (r_convI uu48 uu31 rfl (J.ev rfl))) rfl fun U J => ?_
        refine x_on' hb199 J ?_ rfl
        refine x_v J (r_eqI rfl (J.ev rfl) (J.ev rfl)) rfl fun U J => ?_
        refine x_pickt' hb199 J (fun U J => ?_) rfl
        refine x_m J rfl fun U J => ?_
        refine bcase (b := y170.1 == x200) (fun hb202 => ?_) fun hb202 => ?_
        ·replace G := ift hb202 G
         refine x_on' hb202 J ?_ rfl
         refine x_m J rfl fun U J => ?_
         refine x_on' hb202 J ?_ rfl
         refine x_m J rfl fun U J => ?_
         refine x_on' hb202 J ?_ rfl
         refine x_v (v := .int .u64 x200) J (rv_i h201 (r_convI uu48 uu31 rfl (J.ev rfl))) rfl fun U J => ?_
         refine x_on' hb202 J ?_ rfl
         refine x_m J rfl fun U J => ?_
         refine x_on' hb202 J ?_ rfl
         refine x_len' uu22 (X.imm 3 h181 rfl).2.1 J (fun U J => ?_) rfl
         refine x_on' hb202 J ?_ rfl
         obtain ⟨x203, h204, G⟩ := ltt_ G
         refine x_v (v := .int .u64 x203) J (rv_i h204 (r_convI uu3 uu31 rfl (J.ev rfl))) rfl fun U J => ?_
         refine x_on' hb202 J ?_ rfl
         obtain ⟨x205, h206, G⟩ := ltt_ G
         refine x_v (v := .int .u64 x205) J (rv_i h206 (r_add rfl (J.ev rfl) (J.ev rfl))) rfl fun U J => ?_
         refine x_on' hb202 J ?_ rfl
         refine x_v J (r_eqI rfl (J.ev rfl) (J.ev rfl)) rfl fun U J => ?_
         refine x_pickt' hb202 J (fun U J => ?_) rfl
         refine x_m J rfl fun U J => ?_
         refine wn (hK191 _ _ ?_)
         refine wp_ret ?_
         replace X := X.drop 0 |>.drop 0 |>.drop 0
         cases G
         refine hQ _ _ ?_
         refine lv Tryd.results8 J rfl ?_
         exact ⟨Z175, wz176, rfl, (Sub.trans (Sub.trans (Sub.trans (Sub.trans (Sub.trans h107 sb146) h146) sb162) h160) h180), X⟩
        replace G := iff' hb202 G
        refine xO 8 hb202 J rfl fun U J => ?_
        refine x_pickf' hb202 J (fun U J => ?_) rfl
        refine x_m J rfl fun U J => ?_
        refine wn (hK191 _ _ ?_)
        refine wp_ret ?_
        replace X := X.drop 0 |>.drop 0 |>.drop 0
        cases G
        refine hQ _ _ ?_
        refine lv Tryd.results8 J rfl ?_
        exact ⟨Z175, wz176, rfl, (Sub.trans (Sub.trans (Sub.trans (Sub.trans (Sub.trans h107 sb146) h146) sb162) h160) h180), X⟩
       replace G := iff' hb199 G
       refine xO 4 hb199 J rfl fun U J => ?_
       refine x_pickf' hb199 J (fun U J => ?_) rfl
       refine x_m J rfl fun U J => ?_
       refine xO 8 rfl J rfl fun U J => ?_
       refine x_pickf' rfl J (fun U J => ?_) rfl
       refine x_m J rfl fun U J => ?_
       refine wn (hK191 _ _ ?_)
       refine wp_ret ?_
       replace X := X.drop 0 |>.drop 0 |>.drop 0
       cases G
       refine hQ _ _ ?_
       refine lv Tryd.results8 J rfl ?_
       exact ⟨Z175, wz176, rfl, (Sub.trans (Sub.trans (Sub.trans (Sub.trans (Sub.trans h107 sb146) h146) sb162) h160) h180), X⟩
      replace G := iff' hb196 G
      refine xO 4 hb196 J rfl fun U J => ?_
      refine x_pickf' hb196 J (fun U J => ?_) rfl
      refine x_m J rfl fun U J => ?_
      refine xO 4 rfl J rfl fun U J => ?_
      refine x_pickf' rfl J (fun U J => ?_) rfl
      refine x_m J rfl fun U J => ?_
      refine xO 8 rfl J rfl fun U J => ?_
      refine x_pickf' rfl J (fun U J => ?_) rfl
      refine x_m J rfl fun U J => ?_
      refine wn (hK191 _ _ ?_)
      refine wp_ret ?_
      replace X := X.drop 0 |>.drop 0 |>.drop 0
      cases G
      refine hQ _ _ ?_
      refine lv Tryd.results8 J rfl ?_
      exact ⟨Z175, wz176, rfl, (Sub.trans (Sub.trans (Sub.trans (Sub.trans (Sub.trans h107 sb146) h146) sb162) h160) h180), X⟩
     replace G := iff' hb195 G
     refine xO 3 hb195 J rfl fun U J => ?_
     refine x_pickf' hb195 J (fun U J => ?_) rfl
     refine x_m J rfl fun U J => ?_
     refine xO 4 rfl J rfl fun U J => ?_
     refine x_pickf' rfl J (fun U J => ?_) rfl
     refine x_m J rfl fun U J => ?_
     refine xO 4 rfl J rfl fun U J => ?_
     refine x_pickf' rfl J (fun U J => ?_) rfl
     refine x_m J rfl fun U J => ?_
     refine xO 8 rfl J rfl fun U J => ?_
     refine x_pickf' rfl J (fun U J => ?_) rfl
     refine x_m J rfl fun U J => ?_
     refine wn (hK191 _ _ ?_)
     refine wp_ret ?_
     replace X := X.drop 0 |>.drop 0 |>.drop 0
     cases G
     refine hQ _ _ ?_
     refine lv Tryd.results8 J rfl ?_
     exact ⟨Z175, wz176, rfl, (Sub.trans (Sub.trans (Sub.trans (Sub.trans (Sub.trans h107 sb146) h146) sb162) h160) h180), X⟩
    replace G := iff' hb192 G
    refine xO 3 hb192 J rfl fun U J => ?_
    refine x_pickf' hb192 J (fun U J => ?_) rfl
    refine x_m J rfl fun U J => ?_
    refine xO 3 rfl J rfl fun U J => ?_
    refine x_pickf' rfl J (fun U J => ?_) rfl
    refine x_m J rfl fun U J => ?_
    refine xO 4 rfl J rfl fun U J => ?_
    refine x_pickf' rfl J (fun U J => ?_) rfl
    refine x_m J rfl fun U J => ?_
    refine xO 4 rfl J rfl fun U J => ?_
    refine x_pickf' rfl J (fun U J => ?_) rfl
    refine x_m J rfl fun U J => ?_
    refine xO 8 rfl J rfl fun U J => ?_
    refine x_pickf' rfl J (fun U J => ?_) rfl
    refine x_m J rfl fun U J => ?_
    refine wn (hK191 _ _ ?_)
    refine wp_ret ?_
    replace X := X.drop 0 |>.drop 0 |>.drop 0
    cases G
    refine hQ _ _ ?_
    refine lv Tryd.results8 J rfl ?_
    exact ⟨Z175, wz176, rfl, (Sub.trans (Sub.trans (Sub.trans (Sub.trans (Sub.trans h107 sb146) h146) sb162) h160) h180), X⟩
   obtain ⟨t207, hl207, G⟩ := bnd G
   have hR207 := G
   have hx207_0 : (.inl ()) = t207 → ∀ (U : Act) (w : World), FR 170 [] U [(1, .int .u32 a1), (9, .int .i64 x120), (10, .slice B127 m128 d129), (13, .pointer p159), (15, .int .u64 y170.1), (16, .int .u64 y170.2), (17, .slice B177 m178 d179), (18, .int .i64 y173.2.1), (19, .int .i64 y173.2.2), (20, .slice B185 m186 d187), (21, .int .i64 y183.2)] → SH r (optP (obj83 Z175 wz176) p159 y155.1 :: own k44 44 B177 m178 d179 y173.1 :: own k44 44 B185 m186 d187 y183.1 :: zone Z175 wz176 :: L) w → Kx190 U w := by
    intro ht U w J X
    subst ht
    replace G : law07_SegmentScans_x1_0 a1 x120 y125 y155 y170 y173 y183 = some y := G
    unfold law07_SegmentScans_x1_0 at G
    exact hb1 G U w (J.sub _ rfl) X
   replace X := X.pk 3 |>.pk 1 |>.pk 2 |>.pk 3 |>.pk 4
   refine wp_loop_fn hl207 (fun s U w => FR 170 [] U [(1, .int .u32 a1), (7, (pP g101)), (9, .int .i64 x120), (10, .slice B127 m128 d129), (13, .pointer p159), (15, .int .u64 y170.1), (16, .int .u64 y170.2), (17, .slice B177 m178 d179), (18, .int .i64 y173.2.1), (19, .int .i64 y173.2.2), (20, .slice B185 m186 d187), (21, .int .i64 y183.2), (22, .int .i64 s)] ∧ SH r (blk g101 33 [.int .u64 a3.f0, .int .u64 a3.f1, .int .i64 a3.f2, .int .i64 a3.f3] :: optP (obj83 Z175 wz176) p159 y155.1 :: own k44 44 B177 m178 d179 y173.1 :: own k44 44 B185 m186 d187 y183.1 :: zone Z175 wz176 :: L) w) ⟨J.sub _ rfl, X⟩ ?_
   intro N207 s207 o207 G N207_ T207_ U w hLab
   obtain ⟨x208, rfl⟩ : ∃ q, q = s207 := ⟨_, rfl⟩
   replace G : law07_SegmentScans_l1 a3 y125 x208 = some o207 := G
   unfold law07_SegmentScans_l1 at G
   try dsimp only at hLab
   obtain ⟨J, X⟩ := hLab
   refine wp_seq_k fun K209 hK209 => ?_
   refine ws fun K210 hK210 => ?_
   refine x_m J rfl fun U J => ?_
   refine x_m J rfl fun U J => ?_
   refine x_len' uu22 (X.imm 4 h181 rfl).2.1 J (fun U J => ?_) rfl
   refine x_v J (r_ltI rfl (J.ev rfl) (J.ev rfl)) rfl fun U J => ?_
   refine wn (hK210 _ _ ?_)
   refine c_if J rfl (fun hb211 => ?_) fun hb211 => ?_
   ·replace G := ift hb211 G
    refine wp_skip ?_
    refine hK209 _ _ ?_
    refine wp_seq_k fun K212 hK212 => ?_
    refine wp_block_k fun Kx213 hKx213 => ?_
    refine wp_seq_k fun K214 hK214 => ?_
    have hj3 : ∀ (b215 : Bool), law07_SegmentScans_j3 x208 b215 = some o207 → ∀ (U : Act) (w : World), FR 170 [] U [(1, .int .u32 a1), (7, (pP g101)), (9, .int .i64 x120), (10, .slice B127 m128 d129), (13, .pointer p159), (15, .int .u64 y170.1), (16, .int .u64 y170.2), (17, .slice B177 m178 d179), (18, .int .i64 y173.2.1), (19, .int .i64 y173.2.2), (20, .slice B185 m186 d187), (21, .int .i64 y183.2), (22, .int .i64 x208), (135, .bool b215)] → SH r (blk g101 33 [.int .u64 a3.f0, .int .u64 a3.f1, .int .i64 a3.f2, .int .i64 a3.f3] :: optP (obj83 Z175 wz176) p159 y155.1 :: own k44 44 B177 m178 d179 y173.1 :: own k44 44 B185 m186 d187 y183.1 :: zone Z175 wz176 :: L) w → K214 U w := by
     intro b215 G U w J X
     unfold law07_SegmentScans_j3 at G
     refine hK214 _ _ ?_
     refine c_if J rfl (fun hb216 => ?_) fun hb216 => ?_
     ·replace G := ift hb216 G
      refine ws fun K217 hK217 => ?_
      refine x_m J rfl fun U J => ?_
      refine wn (hK217 _ _ ?_)
      refine wp_ret ?_
      replace X := X.drop 0 |>.drop 0 |>.drop 0 |>.drop 0
      cases G
      have ht := T207_ _ rfl
      subst ht
      replace G := hR207
      replace G : some false = some y := G
      cases G
      refine hQ _ _ ?_
      refine lv Tryd.results8 J rfl ?_
      exact ⟨Z175, wz176, rfl, (Sub.trans (Sub.trans (Sub.trans (Sub.trans (Sub.trans h107 sb146) h146) sb162) h160) h180), X⟩
     replace G := iff' hb216 G
     refine wp_skip ?_
     refine hKx213 _ _ ?_
     refine hK212 _ _ ?_
     refine wp_reg ?_
     refine x_m J rfl fun U J => ?_
     obtain ⟨x218, h219, G⟩ := ltt_ G
     refine x_v (v := .int .i64 x218) J (rv_i h219 (r_add rfl (J.ev rfl) (J.ev rfl))) rfl fun U J => ?_
     refine x_m J rfl fun U J => ?_
     refine wpList_nil ?_
     cases G
     exact ⟨_, N207_ _ rfl, J.sub _ rfl, X⟩
    refine wp_draw [0, 0, 0, 6, 14, 31, 0, 0, 192, 448, 960, 0, 2048, 8128, 16383, 32767, 32767, 131071, 262143, 524287, 32767, 1081343, 4194303, 8388607, 16777215, 33554431, 33554431, 134217727, 268435455, 536870911, 33554431, 1107296255, 4294967295, 8589934591, 17179869183, 34359738367, 34359738367, 137438953471, 274877906943, 549755813887, 34359738367, 1133871366143, 4398046511103, 8796093022207, 17592186044415] [5] rfl J X (by kernel_rfl) (by kernel_rfl) (by kernel_rfl) (by kernel_rfl) fun w X => ?_
    obtain ⟨x220, h221, G⟩ := bnd G
    obtain ⟨cs, hV, hc222⟩ := el (X.imm 4 h181 rfl) h221
    obtain rfl := hV
    obtain ⟨cs, hV, hc223⟩ := el (X.imm 4 h181 rfl) h221
    obtain rfl := hV
    refine ⟨[(0, .agg #[.int .u64 a3.f0, .int .u64 a3.f1, .int .i64 a3.f2, .int .i64 a3.f3]), (1, .slice B127 m128 d129), (2, .int .i64 x208), (3, .pointer (some (ea B127 (x208.toNat * 5)))), (4, .agg #[.int .u64 x220.f0, .int .i64 x220.f1, .int .i64 x220.f2, str x220.f3, .float .f64 x220.f4]), (6, .slice B127 m128 d129), (7, .int .i64 x208), (8, .pointer (some (ea B127 (x208.toNat * 5)))), (9, .pointer (some (ea B127 (x208.toNat * 5)))), (10, .int .u64 x220.f0), (11, (pP g101)), (12, .int .u64 a3.f0), (13, .bool (decide (a3.f0 ≤ x220.f0)))], ?_⟩
    refine dF [0, 1, 2, 3, 4, 6, 7, 8, 9, 10, 11, 12, 13] [5] (by kernel_rfl) ⟨pt [(7, (pP g101))] rfl (fun U J => y_lda (ad := ⟨g101, 0, none⟩) (cs := [.int .u64 a3.f0, .int .u64 a3.f1, .int .i64 a3.f2, .int .i64 a3.f3]) uu33 sz33 (fun j u h => by rw [add_mk, Nat.zero_add]; exact X.cell 0 rfl j u h) J rfl rfl rfl), pm rfl, pm rfl, pt [(92, .slice B127 m128 d129), (93, .int .i64 x208)] rfl (fun U J => y_ia uu22 sz44 (X.imm 4 h181 rfl) h221 J rfl rfl rfl), pt [(94, .pointer (some (ea B127 (x208.toNat * 5))))] rfl (fun U J => y_lda (cs := [.int .u64 x220.f0, .int .i64 x220.f1, .int .i64 x220.f2, str x220.f3, .float .f64 x220.f4]) uu44 sz44 (fun j u h => by rw [ea_add]; exact hc222 _ _ h) J rfl rfl rfl), pm rfl, pm rfl, pt [(97, .slice B127 m128 d129), (98, .int .i64 x208)] rfl (fun U J => y_ia uu22 sz44 (X.imm 4 h181 rfl) h221 J rfl rfl rfl), pt [(99, .pointer (some (ea B127 (x208.toNat * 5))))] rfl (fun U J => y_fae (m := x208.toNat * 5) fa44_0 J rfl rfl), pt [(100, .pointer (some (ea B127 (x208.toNat * 5))))] rfl (fun U J => y_ld uu31 (hc223 0 _ rfl) J rfl rfl rfl), pt [(7, (pP g101))] rfl (fun U J => y_fab fa33_0 J rfl rfl), pt [(102, (pP g101))] rfl (fun U J => y_ld uu31 (X.cell 0 rfl 0 _ rfl) J rfl rfl rfl), pt [(101, .int .u64 x220.f0), (103, .int .u64 a3.f0)] rfl (fun U J => r_geI rfl (J.ev rfl) (J.ev rfl)), trivial⟩ ⟨et [(91, .agg #[.int .u64 a3.f0, .int .u64 a3.f1, .int .i64 a3.f2, .int .i64 a3.f3]), (95, .agg #[.int .u64 x220.f0, .int .i64 x220.f1, .int .i64 x220.f2, str x220.f3, .float .f64 x220.f4])] rfl (fun U J K hK => ?_), trivial⟩
    obtain ⟨y224, h225, G⟩ := bnd G
    refine z_call' en16 J (F_segment_Filter_Wants (L := blk g101 33 [.int .u64 a3.f0, .int .u64 a3.f1, .int .i64 a3.f2, .int .i64 a3.f3] :: optP (obj83 Z175 wz176) p159 y155.1 :: own k44 44 B177 m178 d179 y173.1 :: own k44 44 B185 m186 d187 y183.1 :: zone Z175 wz176 :: L) a3 x220 h225 X) (fun v w hR => ?_) rfl
    obtain ⟨rfl, X⟩ := hR
    obtain ⟨cs, hV, hc226⟩ := el (X.imm 4 h181 rfl) h221
    obtain rfl := hV
    refine bcase (b := decide (a3.f0 ≤ x220.f0)) (fun hb227 => ?_) fun hb227 => ?_
    ·replace G := ift hb227 G
     obtain ⟨cs, hV, hc228⟩ := el (X.imm 4 h181 rfl) h221
     obtain rfl := hV
     refine bcase (b := decide (x220.f0 < a3.f1)) (fun hb229 => ?_) fun hb229 => ?_
     ·replace G := ift hb229 G
      obtain ⟨cs, hV, hc230⟩ := el (X.imm 4 h181 rfl) h221
      obtain rfl := hV
      refine bcase (b := decide (a3.f2 ≤ x220.f2)) (fun hb231 => ?_) fun hb231 => ?_
      ·replace G := ift hb231 G
       obtain ⟨cs, hV, hc232⟩ := el (X.imm 4 h181 rfl) h221
       obtain rfl := hV
       refine hK _ [(14, .bool (decide (a3.f0 ≤ x220.f0))), (15, .slice B127 m128 d129), (16, .int .i64 x208), (17, .pointer (some (ea B127 (x208.toNat * 5)))), (18, .pointer (some (ea B127 (x208.toNat * 5)))), (19, .int .u64 x220.f0), (20, .pointer (some ⟨g101, 1, none⟩)), (21, .int .u64 a3.f1), (22, .bool (decide (x220.f0 < a3.f1))), (23, .bool (decide (x220.f0 < a3.f1))), (24, .bool (decide (x220.f0 < a3.f1))), (25, .slice B127 m128 d129), (26, .int .i64 x208), (27, .pointer (some (ea B127 (x208.toNat * 5)))), (28, .pointer (some (ea B127 (x208.toNat * 5 + 2)))), (29, .int .i64 x220.f2), (30, .pointer (some ⟨g101, 2, none⟩)), (31, .int .i64 a3.f2), (32, .bool (decide (a3.f2 ≤ x220.f2))), (33, .bool (decide (a3.f2 ≤ x220.f2))), (34, .bool (decide (a3.f2 ≤ x220.f2))), (35, .slice B127 m128 d129), (36, .int .i64 x208), (37, .pointer (some (ea B127 (x208.toNat * 5)))), (38, .pointer (some (ea B127 (x208.toNat * 5 + 2)))), (39, .int .i64 x220.f2), (40, .pointer (some ⟨g101, 3, none⟩)), (41, .int .i64 a3.f3), (42, .bool (decide (x220.f2 ≤ a3.f3))), (43, .bool (decide (x220.f2 ≤ a3.f3))), (44, .bool (!(y224 == (decide (x220.f2 ≤ a3.f3)))))] _ rfl ?_
       refine dEnd [6, 7, 8, 9, 10, 11, 12, 13, 14, 15, 16, 17, 18, 19, 20, 21, 22, 23, 24, 25, 26, 27, 28, 29, 30, 31, 32, 33, 34, 35, 36, 37, 38, 39, 40, 41, 42, 43, 44] (by kernel_rfl) ⟨pm rfl, pm rfl, pt [(97, .slice B127 m128 d129), (98, .int .i64 x208)] rfl (fun U J => y_ia uu22 sz44 (X.imm 4 h181 rfl) h221 J rfl rfl rfl), pt [(99, .pointer (some (ea B127 (x208.toNat * 5))))] rfl (fun U J => y_fae (m := x208.toNat * 5) fa44_0 J rfl rfl), pt [(100, .pointer (some (ea B127 (x208.toNat * 5))))] rfl (fun U J => y_ld uu31 (hc226 0 _ rfl) J rfl rfl rfl), pt [(7, (pP g101))] rfl (fun U J => y_fab fa33_0 J rfl rfl), pt [(102, (pP g101))] rfl (fun U J => y_ld uu31 (X.cell 0 rfl 0 _ rfl) J rfl rfl rfl), pt [(101, .int .u64 x220.f0), (103, .int .u64 a3.f0)] rfl (fun U J => r_geI rfl (J.ev rfl) (J.ev rfl)), pm rfl, puOn rfl rfl rfl rfl [(10, .slice B127 m128 d129), (105, .bool (decide (a3.f0 ≤ x220.f0)))] rfl hb227 (fun U J => y_move J rfl rfl) rfl, puOn rfl rfl rfl rfl [(22, .int .i64 x208), (105, .bool (decide (a3.f0 ≤ x220.f0)))] rfl hb227 (fun U J => y_move J rfl rfl) rfl, puOn rfl rfl rfl rfl [(105, .bool (decide (a3.f0 ≤ x220.f0))), (106, .slice B127 m128 d129), (107, .int .i64 x208)] rfl hb227 (fun U J => y_ia uu22 sz44 (X.imm 4 h181 rfl) h221 J rfl rfl rfl) rfl, puOn rfl rfl rfl rfl [(105, .bool (decide (a3.f0 ≤ x220.f0))), (108, .pointer (some (ea B127 (x208.toNat * 5))))] rfl hb227 (fun U J => y_fae (m := x208.toNat * 5) fa44_0 J rfl rfl) rfl, puOn rfl rfl rfl rfl [(105, .bool (decide (a3.f0 ≤ x220.f0))), (109, .pointer (some (ea B127 (x208.toNat * 5))))] rfl hb227 (fun U J => y_ld uu31 (hc228 0 _ rfl) J rfl rfl rfl) rfl, puOn rfl rfl rfl rfl [(7, (pP g101)), (105, .bool (decide (a3.f0 ≤ x220.f0)))] rfl hb227 (fun U J => y_fab fa33_1 J rfl rfl) rfl, puOn rfl rfl rfl rfl [(105, .bool (decide (a3.f0 ≤ x220.f0))), (111, .pointer (some ⟨g101, 1, none⟩))] rfl hb227 (fun U J => y_ld uu31 (X.cell 0 rfl 1 _ rfl) J rfl rfl rfl) rfl, puOn rfl rfl rfl rfl [(105, .bool (decide (a3.f0 ≤ x220.f0))), (110, .int .u64 x220.f0), (112, .int .u64 a3.f1)] rfl hb227 (fun U J => r_ltI rfl (J.ev rfl) (J.ev rfl)) rfl, pt [(105, .bool (decide (a3.f0 ≤ x220.f0))), (113, .bool (decide (x220.f0 < a3.f1)))] rfl (fun U J => y_pickt hb227 J rfl rfl rfl), pm rfl, puOn rfl rfl rfl rfl [(10, .slice B127 m128 d129), (115, .bool (decide (x220.f0 < a3.f1)))] rfl hb229 (fun U J => y_move J rfl rfl) rfl, puOn rfl rfl rfl rfl [(22, .int .i64 x208), (115, .bool (decide (x220.f0 < a3.f1)))] rfl hb229 (fun U J => y_move J rfl rfl) rfl, puOn rfl rfl rfl rfl [(115, .bool (decide (x220.f0 < a3.f1))), (116, .slice B127 m128 d129), (117, .int .i64 x208)] rfl hb229 (fun U J => y_ia uu22 sz44 (X.imm 4 h181 rfl) h221 J rfl rfl rfl) rfl, puOn rfl rfl rfl rfl [(115, .bool (decide (x220.f0 < a3.f1))), (118, .pointer (some (ea B127 (x208.toNat * 5))))] rfl hb229 (fun U J => y_fae (m := x208.toNat * 5) fa44_2 J rfl rfl) rfl, puOn rfl rfl rfl rfl [(115, .bool (decide (x220.f0 < a3.f1))), (119, .pointer (some (ea B127 (x208.toNat * 5 + 2))))] rfl hb229 (fun U J => y_ld uu2 (hc230 2 _ rfl) J rfl rfl rfl) rfl, puOn rfl rfl rfl rfl [(7, (pP g101)), (115, .bool (decide (x220.f0 < a3.f1)))] rfl hb229 (fun U J => y_fab fa33_2 J rfl rfl) rfl, puOn rfl rfl rfl rfl [(115, .bool (decide (x220.f0 < a3.f1))), (121, .pointer (some ⟨g101, 2, none⟩))] rfl hb229 (fun U J => y_ld uu2 (X.cell 0 rfl 2 _ rfl) J rfl rfl rfl) rfl, puOn rfl rfl rfl rfl [(115, .bool (decide (x220.f0 < a3.f1))), (120, .int .i64 x220.f2), (122, .int .i64 a3.f2)] rfl hb229 (fun U J => r_geI rfl (J.ev rfl) (J.ev rfl)) rfl, pt [(115, .bool (decide (x220.f0 < a3.f1))), (123, .bool (decide (a3.f2 ≤ x220.f2)))] rfl (fun U J => y_pickt hb229 J rfl rfl rfl), pm rfl, puOn rfl rfl rfl rfl [(10, .slice B127 m128 d129), (125, .bool (decide (a3.f2 ≤ x220.f2)))] rfl hb231 (fun U J => y_move J rfl rfl) rfl, puOn rfl rfl rfl rfl [(22, .int .i64 x208), (125, .bool (decide (a3.f2 ≤ x220.f2)))] rfl hb231 (fun U J => y_move J rfl rfl) rfl, puOn rfl rfl rfl rfl [(125, .bool (decide (a3.f2 ≤ x220.f2))), (126, .slice B127 m128 d129), (127, .int .i64 x208)] rfl hb231 (fun U J => y_ia uu22 sz44 (X.imm 4 h181 rfl) h221 J rfl rfl rfl) rfl, puOn rfl rfl rfl rfl [(125, .bool (decide (a3.f2 ≤ x220.f2))), (128, .pointer (some (ea B127 (x208.toNat * 5))))] rfl hb231 (fun U J => y_fae (m := x208.toNat * 5) fa44_2 J rfl rfl) rfl, puOn rfl rfl rfl rfl [(125, .bool (decide (a3.f2 ≤ x220.f2))), (129, .pointer (some (ea B127 (x208.toNat * 5 + 2))))] rfl hb231 (fun U J => y_ld uu2 (hc232 2 _ rfl) J rfl rfl rfl) rfl, puOn rfl rfl rfl rfl [(7, (pP g101)), (125, .bool (decide (a3.f2 ≤ x220.f2)))] rfl hb231 (fun U J => y_fab fa33_3 J rfl rfl) rfl, puOn rfl rfl rfl rfl [(125, .bool (decide (a3.f2 ≤ x220.f2))), (131, .pointer (some ⟨g101, 3, none⟩))] rfl hb231 (fun U J => y_ld uu2 (X.cell 0 rfl 3 _ rfl) J rfl rfl rfl) rfl, puOn rfl rfl rfl rfl [(125, .bool (decide (a3.f2 ≤ x220.f2))), (130, .int .i64 x220.f2), (132, .int .i64 a3.f3)] rfl hb231 (fun U J => r_leI rfl (J.ev rfl) (J.ev rfl)) rfl, pt [(125, .bool (decide (a3.f2 ≤ x220.f2))), (133, .bool (decide (x220.f2 ≤ a3.f3)))] rfl (fun U J => y_pickt hb231 J rfl rfl rfl), pt [(96, .bool y224), (134, .bool (decide (x220.f2 ≤ a3.f3)))] rfl (fun U J => r_neB uu4 rfl (J.ev rfl) (J.ev rfl)), trivial⟩ ⟨by kernel_rfl, by kernel_rfl⟩ [(1, .int .u32 a1), (7, (pP g101)), (9, .int .i64 x120), (10, .slice B127 m128 d129), (13, .pointer p159), (15, .int .u64 y170.1), (16, .int .u64 y170.2), (17, .slice B177 m178 d179), (18, .int .i64 y173.2.1), (19, .int .i64 y173.2.2), (20, .slice B185 m186 d187), (21, .int .i64 y183.2), (22, .int .i64 x208), (106, .slice B127 m128 d129), (107, .int .i64 x208), (110, .int .u64 x220.f0), (111, .pointer (some ⟨g101, 1, none⟩)), (112, .int .u64 a3.f1), (113, .bool (decide (x220.f0 < a3.f1))), (116, .slice B127 m128 d129), (117, .int .i64 x208), (120, .int .i64 x220.f2), (121, .pointer (some ⟨g101, 2, none⟩)), (122, .int .i64 a3.f2), (123, .bool (decide (a3.f2 ≤ x220.f2))), (126, .slice B127 m128 d129), (127, .int .i64 x208), (130, .int .i64 x220.f2), (131, .pointer (some ⟨g101, 3, none⟩)), (132, .int .i64 a3.f3), (133, .bool (decide (x220.f2 ≤ a3.f3))), (135, .bool (!(y224 == (decide (x220.f2 ≤ a3.f3)))))] rfl (fun U J => ?_)
       exact hj3 (!(y224 == (decide (x220.f2 ≤ a3.f3)))) G U w (J.sub _ rfl) X
      replace G := iff' hb231 G
      refine hK _ [(14, .bool (decide (a3.f0 ≤ x220.f0))), (15, .slice B127 m128 d129), (16, .int .i64 x208), (17, .pointer (some (ea B127 (x208.toNat * 5)))), (18, .pointer (some (ea B127 (x208.toNat * 5)))), (19, .int .u64 x220.f0), (20, .pointer (some ⟨g101, 1, none⟩)), (21, .int .u64 a3.f1), (22, .bool (decide (x220.f0 < a3.f1))), (23, .bool (decide (x220.f0 < a3.f1))), (24, .bool (decide (x220.f0 < a3.f1))), (25, .slice B127 m128 d129), (26, .int .i64 x208), (27, .pointer (some (ea B127 (x208.toNat * 5)))), (28, .pointer (some (ea B127 (x208.toNat * 5 + 2)))), (29, .int .i64 x220.f2), (30, .pointer (some ⟨g101, 2, none⟩)), (31, .int .i64 a3.f2), (32, .bool (decide (a3.f2 ≤ x220.f2))), (33, .bool (decide (a3.f2 ≤ x220.f2))), (34, .bool (decide (a3.f2 ≤ x220.f2))), (35, undef), (36, undef), (37, undef), (38, undef), (39, undef), (40, undef), (41, undef), (42, undef), (43, .bool false), (44, .bool (!(y224 == false)))] _ rfl ?_
      refine dEnd [6, 7, 8, 9, 10, 11, 12, 13, 14, 15, 16, 17, 18, 19, 20, 21, 22, 23, 24, 25, 26, 27, 28, 29, 30, 31, 32, 33, 34, 35, 36, 37, 38, 39, 40, 41, 42, 43, 44] (by kernel_rfl) ⟨pm rfl, pm rfl, pt [(97, .slice B127 m128 d129), (98, .int .i64 x208)] rfl (fun U J => y_ia uu22 sz44 (X.imm 4 h181 rfl) h221 J rfl rfl rfl), pt [(99, .pointer (some (ea B127 (x208.toNat * 5))))] rfl (fun U J => y_fae (m := x208.toNat * 5) fa44_0 J rfl rfl), pt [(100, .pointer (some (ea B127 (x208.toNat * 5))))] rfl (fun U J => y_ld uu31 (hc226 0 _ rfl) J rfl rfl rfl), pt [(7, (pP g101))] rfl (fun U J => y_fab fa33_0 J rfl rfl), pt [(102, (pP g101))] rfl (fun U J => y_ld uu31 (X.cell 0 rfl 0 _ rfl) J rfl rfl rfl), pt [(101, .int .u64 x220.f0), (103, .int .u64 a3.f0)] rfl (fun U J => r_geI rfl (J.ev rfl) (J.ev rfl)), pm rfl, puOn rfl rfl rfl rfl [(10, .slice B127 m128 d129), (105, .bool (decide (a3.f0 ≤ x220.f0)))] rfl hb227 (fun U J => y_move J rfl rfl) rfl, puOn rfl rfl rfl rfl [(22, .int .i64 x208), (105, .bool (decide (a3.f0 ≤ x220.f0)))] rfl hb227 (fun U J => y_move J rfl rfl) rfl, puOn rfl rfl rfl rfl [(105, .bool (decide (a3.f0 ≤ x220.f0))), (106, .slice B127 m128 d129), (107, .int .i64 x208)] rfl hb227 (fun U J => y_ia uu22 sz44 (X.imm 4 h181 rfl) h221 J rfl rfl rfl) rfl, puOn rfl rfl rfl rfl [(105, .bool (decide (a3.f0 ≤ x220.f0))), (108, .pointer (some (ea B127 (x208.toNat * 5))))] rfl hb227 (fun U J => y_fae (m := x208.toNat * 5) fa44_0 J rfl rfl) rfl, puOn rfl rfl rfl rfl [(105, .bool (decide (a3.f0 ≤ x220.f0))), (109, .pointer (some (ea B127 (x208.toNat * 5))))] rfl hb227 (fun U J => y_ld uu31 (hc228 0 _ rfl) J rfl rfl rfl) rfl, puOn rfl rfl rfl rfl [(7, (pP g101)), (105, .bool (decide (a3.f0 ≤ x220.f0)))] rfl hb227 (fun U J => y_fab fa33_1 J rfl rfl) rfl, puOn rfl rfl rfl rfl [(105, .bool (decide (a3.f0 ≤ x220.f0))), (111, .pointer (some ⟨g101, 1, none⟩))] rfl hb227 (fun U J => y_ld uu31 (X.cell 0 rfl 1 _ rfl) J rfl rfl rfl) rfl, puOn rfl rfl rfl rfl [(105, .bool (decide (a3.f0 ≤ x220.f0))), (110, .int .u64 x220.f0), (112, .int .u64 a3.f1)] rfl hb227 (fun U J => r_ltI rfl (J.ev rfl) (J.ev rfl)) rfl, pt [(105, .bool (decide (a3.f0 ≤ x220.f0))), (113, .bool (decide (x220.f0 < a3.f1)))] rfl (fun U J => y_pickt hb227 J rfl rfl rfl), pm rfl, puOn rfl rfl rfl rfl [(10, .slice B127 m128 d129), (115, .bool (decide (x220.f0 < a3.f1)))] rfl hb229 (fun U J => y_move J rfl rfl) rfl, puOn rfl rfl rfl rfl [(22, .int .i64 x208), (115, .bool (decide (x220.f0 < a3.f1)))] rfl hb229 (fun U J => y_move J rfl rfl) rfl, puOn rfl rfl rfl rfl [(115, .bool (decide (x220.f0 < a3.f1))), (116, .slice B127 m128 d129), (117, .int .i64 x208)] rfl hb229 (fun U J => y_ia uu22 sz44 (X.imm 4 h181 rfl) h221 J rfl rfl rfl) rfl, puOn rfl rfl rfl rfl [(115, .bool (decide (x220.f0 < a3.f1))), (118, .pointer (some (ea B127 (x208.toNat * 5))))] rfl hb229 (fun U J => y_fae (m := x208.toNat * 5) fa44_2 J rfl rfl) rfl, puOn rfl rfl rfl rfl [(115, .bool (decide (x220.f0 < a3.f1))), (119, .pointer (some (ea B127 (x208.toNat * 5 + 2))))] rfl hb229 (fun U J => y_ld uu2 (hc230 2 _ rfl) J rfl rfl rfl) rfl, puOn rfl rfl rfl rfl [(7, (pP g101)), (115, .bool (decide (x220.f0 < a3.f1)))] rfl hb229 (fun U J => y_fab fa33_2 J rfl rfl) rfl, puOn rfl rfl rfl rfl [(115, .bool (decide (x220.f0 < a3.f1))), (121, .pointer (some ⟨g101, 2, none⟩))] rfl hb229 (fun U J => y_ld uu2 (X.cell 0 rfl 2 _ rfl) J rfl rfl rfl) rfl, puOn rfl rfl rfl rfl [(115, .bool (decide (x220.f0 < a3.f1))), (120, .int .i64 x220.f2), (122, .int .i64 a3.f2)] rfl hb229 (fun U J => r_geI rfl (J.ev rfl) (J.ev rfl)) rfl, pt [(115, .bool (decide (x220.f0 < a3.f1))), (123, .bool (decide (a3.f2 ≤ x220.f2)))] rfl (fun U J => y_pickt hb229 J rfl rfl rfl), pm rfl, puOff rfl rfl rfl rfl [(10, .slice B127 m128 d129), (125, .bool (decide (a3.f2 ≤ x220.f2)))] rfl hb231 rfl, puOff rfl rfl rfl rfl [(22, .int .i64 x208), (125, .bool (decide (a3.f2 ≤ x220.f2)))] rfl hb231 rfl, puOff rfl rfl rfl rfl [(125, .bool (decide (a3.f2 ≤ x220.f2))), (126, undef), (127, undef)] rfl hb231 rfl, puOff rfl rfl rfl rfl [(125, .bool (decide (a3.f2 ≤ x220.f2))), (128, undef)] rfl hb231 rfl, puOff rfl rfl rfl rfl [(125, .bool (decide (a3.f2 ≤ x220.f2))), (129, undef)] rfl hb231 rfl, puOff rfl rfl rfl rfl [(7, (pP g101)), (125, .bool (decide (a3.f2 ≤ x220.f2)))] rfl hb231 rfl, puOff rfl rfl rfl rfl [(125, .bool (decide (a3.f2 ≤ x220.f2))), (131, undef)] rfl hb231 rfl, puOff rfl rfl rfl rfl [(125, .bool (decide (a3.f2 ≤ x220.f2))), (130, undef), (132, undef)] rfl hb231 rfl, pt [(125, .bool (decide (a3.f2 ≤ x220.f2))), (133, undef)] rfl (fun U J => y_pickf hb231 J rfl rfl rfl), pt [(96, .bool y224), (134, .bool false)] rfl (fun U J => r_neB uu4 rfl (J.ev rfl) (J.ev rfl)), trivial⟩ ⟨by kernel_rfl, by kernel_rfl⟩ [(1, .int .u32 a1), (7, (pP g101)), (9, .int .i64 x120), (10, .slice B127 m128 d129), (13, .pointer p159), (15, .int .u64 y170.1), (16, .int .u64 y170.2), (17, .slice B177 m178 d179), (18, .int .i64 y173.2.1), (19, .int .i64 y173.2.2), (20, .slice B185 m186 d187), (21, .int .i64 y183.2), (22, .int .i64 x208), (106, .slice B127 m128 d129), (107, .int .i64 x208), (110, .int .u64 x220.f0), (111, .pointer (some ⟨g101, 1, none⟩)), (112, .int .u64 a3.f1), (113, .bool (decide (x220.f0 < a3.f1))), (116, .slice B127 m128 d129), (117, .int .i64 x208), (120, .int .i64 x220.f2), (121, .pointer (some ⟨g101, 2, none⟩)), (122, .int .i64 a3.f2), (123, .bool (decide (a3.f2 ≤ x220.f2))), (135, .bool (!(y224 == false)))] rfl (fun U J => ?_)
      exact hj3 (!(y224 == false)) G U w (J.sub _ rfl) X
     replace G := iff' hb229 G
     refine hK _ [(14, .bool (decide (a3.f0 ≤ x220.f0))), (15, .slice B127 m128 d129), (16, .int .i64 x208), (17, .pointer (some (ea B127 (x208.toNat * 5)))), (18, .pointer (some (ea B127 (x208.toNat * 5)))), (19, .int .u64 x220.f0), (20, .pointer (some ⟨g101, 1, none⟩)), (21, .int .u64 a3.f1), (22, .bool (decide (x220.f0 < a3.f1))), (23, .bool (decide (x220.f0 < a3.f1))), (24, .bool (decide (x220.f0 < a3.f1))), (25, undef), (26, undef), (27, undef), (28, undef), (29, undef), (30, undef), (31, undef), (32, undef), (33, .bool false), (34, .bool false), (35, undef), (36, undef), (37, undef), (38, undef), (39, undef), (40, undef), (41, undef), (42, undef), (43, .bool false), (44, .bool (!(y224 == false)))] _ rfl ?_
     refine dEnd [6, 7, 8, 9, 10, 11, 12, 13, 14, 15, 16, 17, 18, 19, 20, 21, 22, 23, 24, 25, 26, 27, 28, 29, 30, 31, 32, 33, 34, 35, 36, 37, 38, 39, 40, 41, 42, 43, 44] (by kernel_rfl) ⟨pm rfl, pm rfl, pt [(97, .slice B127 m128 d129), (98, .int .i64 x208)] rfl (fun U J => y_ia uu22 sz44 (X.imm 4 h181 rfl) h221 J rfl rfl rfl), pt [(99, .pointer (some (ea B127 (x208.toNat * 5))))] rfl (fun U J => y_fae (m := x208.toNat * 5) fa44_0 J rfl rfl), pt [(100, .pointer (some (ea B127 (x208.toNat * 5))))] rfl (fun U J => y_ld uu31 (hc226 0 _ rfl) J rfl rfl rfl), pt [(7, (pP g101))] rfl (fun U J => y_fab fa33_0 J rfl rfl), pt [(102, (pP g101))] rfl (fun U J => y_ld uu31 (X.cell 0 rfl 0 _ rfl) J rfl rfl rfl), pt [(101, .int .u64 x220.f0), (103, .int .u64 a3.f0)] rfl (fun U J => r_geI rfl (J.ev rfl) (J.ev rfl)), pm rfl, puOn rfl rfl rfl rfl [(10, .slice B127 m128 d129), (105, .bool (decide (a3.f0 ≤ x220.f0)))] rfl hb227 (fun U J => y_move J rfl rfl) rfl, puOn rfl rfl rfl rfl [(22, .int .i64 x208), (105, .bool (decide (a3.f0 ≤ x220.f0)))] rfl hb227 (fun U J => y_move J rfl rfl) rfl, puOn rfl rfl rfl rfl [(105, .bool (decide (a3.f0 ≤ x220.f0))), (106, .slice B127 m128 d129), (107, .int .i64 x208)] rfl hb227 (fun U J => y_ia uu22 sz44 (X.imm 4 h181 rfl) h221 J rfl rfl rfl) rfl, puOn rfl rfl rfl rfl [(105, .bool (decide (a3.f0 ≤ x220.f0))), (108, .pointer (some (ea B127 (x208.toNat * 5))))] rfl hb227 (fun U J => y_fae (m := x208.toNat * 5) fa44_0 J rfl rfl) rfl, puOn rfl rfl rfl rfl [(105, .bool (decide (a3.f0 ≤ x220.f0))), (109, .pointer (some (ea B127 (x208.toNat * 5))))] rfl hb227 (fun U J => y_ld uu31 (hc228 0 _ rfl) J rfl rfl rfl) rfl, puOn rfl rfl rfl rfl [(7, (pP g101)), (105, .bool (decide (a3.f0 ≤ x220.f0)))] rfl hb227 (fun U J => y_fab fa33_1 J rfl rfl) rfl, puOn rfl rfl rfl rfl [(105, .bool (decide (a3.f0 ≤ x220.f0))), (111, .pointer (some ⟨g101, 1, none⟩))] rfl hb227 (fun U J => y_ld uu31 (X.cell 0 rfl 1 _ rfl) J rfl rfl rfl) rfl, puOn rfl rfl rfl rfl [(105, .bool (decide (a3.f0 ≤ x220.f0))), (110, .int .u64 x220.f0), (112, .int .u64 a3.f1)] rfl hb227 (fun U J => r_ltI rfl (J.ev rfl) (J.ev rfl)) rfl, pt [(105, .bool (decide (a3.f0 ≤ x220.f0))), (113, .bool (decide (x220.f0 < a3.f1)))] rfl (fun U J => y_pickt hb227 J rfl rfl rfl), pm rfl, puOff rfl rfl rfl rfl [(10, .slice B127 m128 d129), (115, .bool (decide (x220.f0 < a3.f1)))] rfl hb229 rfl, puOff rfl rfl rfl rfl [(22, .int .i64 x208), (115, .bool (decide (x220.f0 < a3.f1)))] rfl hb229 rfl, puOff rfl rfl rfl rfl [(115, .bool (decide (x220.f0 < a3.f1))), (116, undef), (117, undef)] rfl hb229 rfl, puOff rfl rfl rfl rfl [(115, .bool (decide (x220.f0 < a3.f1))), (118, undef)] rfl hb229 rfl, puOff rfl rfl rfl rfl [(115, .bool (decide (x220.f0 < a3.f1))), (119, undef)] rfl hb229 rfl, puOff rfl rfl rfl rfl [(7, (pP g101)), (115, .bool (decide (x220.f0 < a3.f1)))] rfl hb229 rfl, puOff rfl rfl rfl rfl [(115, .bool (decide (x220.f0 < a3.f1))), (121, undef)] rfl hb229 rfl, puOff rfl rfl rfl rfl [(115, .bool (decide (x220.f0 < a3.f1))), (120, undef), (122, undef)] rfl hb229 rfl, pt [(115, .bool (decide (x220.f0 < a3.f1))), (123, undef)] rfl (fun U J => y_pickf hb229 J rfl rfl rfl), pm rfl, puOff rfl rfl rfl rfl [(10, .slice B127 m128 d129), (125, .bool false)] rfl rfl rfl, puOff rfl rfl rfl rfl [(22, .int .i64 x208), (125, .bool false)] rfl rfl rfl, puOff rfl rfl rfl rfl [(125, .bool false), (126, undef), (127, undef)] rfl rfl rfl, puOff rfl rfl rfl rfl [(125, .bool false), (128, undef)] rfl rfl rfl, puOff rfl rfl rfl rfl [(125, .bool false), (129, undef)] rfl rfl rfl, puOff rfl rfl rfl rfl [(7, (pP g101)), (125, .bool false)] rfl rfl rfl, puOff rfl rfl rfl rfl [(125, .bool false), (131, undef)] rfl rfl rfl, puOff rfl rfl rfl rfl [(125, .bool false), (130, undef), (132, undef)] rfl rfl rfl, pt [(125, .bool false), (133, undef)] rfl (fun U J => y_pickf rfl J rfl rfl rfl), pt [(96, .bool y224), (134, .bool false)] rfl (fun U J => r_neB uu4 rfl (J.ev rfl) (J.ev rfl)), trivial⟩ ⟨by kernel_rfl, by kernel_rfl⟩ [(1, .int .u32 a1), (7, (pP g101)), (9, .int .i64 x120), (10, .slice B127 m128 d129), (13, .pointer p159), (15, .int .u64 y170.1), (16, .int .u64 y170.2), (17, .slice B177 m178 d179), (18, .int .i64 y173.2.1), (19, .int .i64 y173.2.2), (20, .slice B185 m186 d187), (21, .int .i64 y183.2), (22, .int .i64 x208), (106, .slice B127 m128 d129), (107, .int .i64 x208), (110, .int .u64 x220.f0), (111, .pointer (some ⟨g101, 1, none⟩)), (112, .int .u64 a3.f1), (113, .bool (decide (x220.f0 < a3.f1))), (135, .bool (!(y224 == false)))] rfl (fun U J => ?_)
     exact hj3 (!(y224 == false)) G U w (J.sub _ rfl) X
    replace G := iff' hb227 G
    refine hK _ [(14, .bool (decide (a3.f0 ≤ x220.f0))), (15, undef), (16, undef), (17, undef), (18, undef), (19, undef), (20, undef), (21, undef), (22, undef), (23, .bool false), (24, .bool false), (25, undef), (26, undef), (27, undef), (28, undef), (29, undef), (30, undef), (31, undef), (32, undef), (33, .bool false), (34, .bool false), (35, undef), (36, undef), (37, undef), (38, undef), (39, undef), (40, undef), (41, undef), (42, undef), (43, .bool false), (44, .bool (!(y224 == false)))] _ rfl ?_
    refine dEnd [6, 7, 8, 9, 10, 11, 12, 13, 14, 15, 16, 17, 18, 19, 20, 21, 22, 23, 24, 25, 26, 27, 28, 29, 30, 31, 32, 33, 34, 35, 36, 37, 38, 39, 40, 41, 42, 43, 44] (by kernel_rfl) ⟨pm rfl, pm rfl, pt [(97, .slice B127 m128 d129), (98, .int .i64 x208)] rfl (fun U J => y_ia uu22 sz44 (X.imm 4 h181 rfl) h221 J rfl rfl rfl), pt [(99, .pointer (some (ea B127 (x208.toNat * 5))))] rfl (fun U J => y_fae (m := x208.toNat * 5) fa44_0 J rfl rfl), pt [(100, .pointer (some (ea B127 (x208.toNat * 5))))] rfl (fun U J => y_ld uu31 (hc226 0 _ rfl) J rfl rfl rfl), pt [(7, (pP g101))] rfl (fun U J => y_fab fa33_0 J rfl rfl), pt [(102, (pP g101))] rfl (fun U J => y_ld uu31 (X.cell 0 rfl 0 _ rfl) J rfl rfl rfl), pt [(101, .int .u64 x220.f0), (103, .int .u64 a3.f0)] rfl (fun U J => r_geI rfl (J.ev rfl) (J.ev rfl)), pm rfl, puOff rfl rfl rfl rfl [(10, .slice B127 m128 d129), (105, .bool (decide (a3.f0 ≤ x220.f0)))] rfl hb227 rfl, puOff rfl rfl rfl rfl [(22, .int .i64 x208), (105, .bool (decide (a3.f0 ≤ x220.f0)))] rfl hb227 rfl, puOff rfl rfl rfl rfl [(105, .bool (decide (a3.f0 ≤ x220.f0))), (106, undef), (107, undef)] rfl hb227 rfl, puOff rfl rfl rfl rfl [(105, .bool (decide (a3.f0 ≤ x220.f0))), (108, undef)] rfl hb227 rfl, puOff rfl rfl rfl rfl [(105, .bool (decide (a3.f0 ≤ x220.f0))), (109, undef)] rfl hb227 rfl, puOff rfl rfl rfl rfl [(7, (pP g101)), (105, .bool (decide (a3.f0 ≤ x220.f0)))] rfl hb227 rfl, puOff rfl rfl rfl rfl [(105, .bool (decide (a3.f0 ≤ x220.f0))), (111, undef)] rfl hb227 rfl, puOff rfl rfl rfl rfl [(105, .bool (decide (a3.f0 ≤ x220.f0))), (110, undef), (112, undef)] rfl hb227 rfl, pt [(105, .bool (decide (a3.f0 ≤ x220.f0))), (113, undef)] rfl (fun U J => y_pickf hb227 J rfl rfl rfl), pm rfl, puOff rfl rfl rfl rfl [(10, .slice B127 m128 d129), (115, .bool false)] rfl rfl rfl, puOff rfl rfl rfl rfl [(22, .int .i64 x208), (115, .bool false)] rfl rfl rfl, puOff rfl rfl rfl rfl [(115, .bool false), (116, undef), (117, undef)] rfl rfl rfl, puOff rfl rfl rfl rfl [(115, .bool false), (118, undef)] rfl rfl rfl, puOff rfl rfl rfl rfl [(115, .bool false), (119, undef)] rfl rfl rfl, puOff rfl rfl rfl rfl [(7, (pP g101)), (115, .bool false)] rfl rfl rfl, puOff rfl rfl rfl rfl [(115, .bool false), (121, undef)] rfl rfl rfl, puOff rfl rfl rfl rfl [(115, .bool false), (120, undef), (122, undef)] rfl rfl rfl, pt [(115, .bool false), (123, undef)] rfl (fun U J => y_pickf rfl J rfl rfl rfl), pm rfl, puOff rfl rfl rfl rfl [(10, .slice B127 m128 d129), (125, .bool false)] rfl rfl rfl, puOff rfl rfl rfl rfl [(22, .int .i64 x208), (125, .bool false)] rfl rfl rfl, puOff rfl rfl rfl rfl [(125, .bool false), (126, undef), (127, undef)] rfl rfl rfl, puOff rfl rfl rfl rfl [(125, .bool false), (128, undef)] rfl rfl rfl, puOff rfl rfl rfl rfl [(125, .bool false), (129, undef)] rfl rfl rfl, puOff rfl rfl rfl rfl [(7, (pP g101)), (125, .bool false)] rfl rfl rfl, puOff rfl rfl rfl rfl [(125, .bool false), (131, undef)] rfl rfl rfl, puOff rfl rfl rfl rfl [(125, .bool false), (130, undef), (132, undef)] rfl rfl rfl, pt [(125, .bool false), (133, undef)] rfl (fun U J => y_pickf rfl J rfl rfl rfl), pt [(96, .bool y224), (134, .bool false)] rfl (fun U J => r_neB uu4 rfl (J.ev rfl) (J.ev rfl)), trivial⟩ ⟨by kernel_rfl, by kernel_rfl⟩ [(1, .int .u32 a1), (7, (pP g101)), (9, .int .i64 x120), (10, .slice B127 m128 d129), (13, .pointer p159), (15, .int .u64 y170.1), (16, .int .u64 y170.2), (17, .slice B177 m178 d179), (18, .int .i64 y173.2.1), (19, .int .i64 y173.2.2), (20, .slice B185 m186 d187), (21, .int .i64 y183.2), (22, .int .i64 x208), (135, .bool (!(y224 == false)))] rfl (fun U J => ?_)
    exact hj3 (!(y224 == false)) G U w (J.sub _ rfl) X
   replace G := iff' hb211 G
   refine wp_exit ?_
   replace X := X.drop 0
   cases G
   exact hx207_0 (T207_ _ rfl) U w (J.sub _ rfl) X
  refine wp_reg ?_
  refine x_m J rfl fun U J => ?_
  refine x_v J (r_neI rfl (J.ev rfl) (J.ev rfl)) rfl fun U J => ?_
  refine x_m J rfl fun U J => ?_
  refine bcase (b := y139.2 != 0) (fun hb233 => ?_) fun hb233 => ?_
  ·replace G := ift hb233 G
   refine xO 2 hb233 J rfl fun U J => ?_
   refine x_pickt' hb233 J (fun U J => ?_) rfl
   refine wpList_nil ?_
   replace X := X.pk 1 |>.pk 1 |>.pk 2
   exact hj2 true G U w (J.sub _ rfl) X
  replace G := iff' hb233 G
  refine x_on' hb233 J ?_ rfl
  refine x_m J rfl fun U J => ?_
  refine x_on' hb233 J ?_ rfl
  refine x_v J (r_neI rfl (J.ev rfl) (J.ev rfl)) rfl fun U J => ?_
  refine x_pickf' hb233 J (fun U J => ?_) rfl
  refine wpList_nil ?_
  replace X := X.pk 1 |>.pk 1 |>.pk 2
  exact hj2 (y155.2 != 0) G U w (J.sub _ rfl) X
 refine wp_reg ?_
 replace X := X.pk 1
 obtain ⟨y234, h235, G⟩ := bnd G
 refine x_call' en10 J (F_law07_awake (L := blk g101 33 [.int .u64 a3.f0, .int .u64 a3.f1, .int .i64 a3.f2, .int .i64 a3.f3] :: L) h235 hG0 X) (fun v U w hR J => ?_) rfl
 obtain ⟨Z236, wz237, rfl, h238, X⟩ := hR
 have h239 := Imm.sub ha0 h238
 refine x_v J (r_not rfl (J.ev rfl)) rfl fun U J => ?_
 refine x_m J rfl fun U J => ?_
 refine bcase (b := !y234) (fun hb240 => ?_) fun hb240 => ?_
 ·replace G := ift hb240 G
  refine xO 3 hb240 J rfl fun U J => ?_
  refine x_pickt' hb240 J (fun U J => ?_) rfl
  refine wpList_nil ?_
  replace X := X.pk 1
  exact hj1 true G Z236 wz237 h238 h239 U w (J.sub _ rfl) X
 replace G := iff' hb240 G
 refine x_on' hb240 J ?_ rfl
 refine x_m J rfl fun U J => ?_
 refine x_on' hb240 J ?_ rfl
 refine x_len' uu22 (X.imm 0 h239 rfl).2.1 J (fun U J => ?_) rfl
 refine x_on' hb240 J ?_ rfl
 refine x_v J (r_gtI rfl (J.ev rfl) (J.ev rfl)) rfl fun U J => ?_
 refine x_pickf' hb240 J (fun U J => ?_) rfl
 refine wpList_nil ?_
 replace X := X.pk 1
 exact hj1 (decide (300 < (a0.length : Int))) G Z236 wz237 h238 h239 U w (J.sub _ rfl) X
end Go.Proofs.YteodeedejjcmgaaDoor.M
namespace Go.Proofs.YteodeedejjcmgaaDoor.segmentScans
open Go Go.RowKit Go.ChangeShapes Go.WideShapes Go.ChangeAt Go.Proofs.YteodeedejjcmgaaDoor.E Go.Proofs.YteodeedejjcmgaaDoor.M
set_option linter.unusedVariables false
theorem own : ownKnob Tryd.prog.godebug = none := by kernel_rfl
theorem laidOut : laidOutB Tryd.prog = true := by kernel_rfl
theorem gN : Tryd.prog.globalNamed "headrace/page.table" = some 0 := by kernel_rfl
theorem gT : (Tryd.prog.globals[0]?).map (·.type) = some 130 := by kernel_rfl
theorem door_met (os : Os) (args : Array Value) : laidMetH Tryd.prog Rows.segmentScansRow.laid ((World.doorLaid Tryd.prog 400 os).forCall (fun _ _ => 0) ⟨#[], args, []⟩).memory :=
  laidMetH_of_parts3 (fuel := 8) (laidMet_of_run' 8 (by kernel_rfl) (by kernel_rfl)) (by kernel_rfl) (by kernel_rfl)
theorem of_laid {W : World} (h : laidMetH Tryd.prog Rows.segmentScansRow.laid W) : Imm (HeapZ W) W (kI .u32) (some ⟨0, 0, none⟩) 16 16 M.gl_page_table := by
  rw [MakeChecks.laidMetH_plain _ _ _ (by kernel_rfl)] at h
  exact tab_imm gN gT Tryd.underlying130 Tryd.underlying48 ce48 rfl (by decide) h
def Pure : Prop := ∀ (a0 : (List M.S44)) (a1 : Int) (a2 : Int) (a3 : M.S33), (gL 48 M.g44) a0 → (gI .u32) a1 → (gI .u8) a2 → M.g33 a3 → M.law07_SegmentScans a0 a1 a2 a3 = some true
set_option maxRecDepth 100000 in
theorem lifted (hP : Pure) (os : Os) (started : os.Started) (H : Type) (enc : TypeId × Value → H) :
    ReturnsInHanded {} Tryd.checked os 8 .any (fun w args => (Rows.segmentScansSpec.pre enc Tryd.prog Tryd.f8 [] false w args ∧ laidMetH Tryd.prog Rows.segmentScansRow.laid w) ∧ sizedMet enc Tryd.prog Tryd.f8 (OpenSpec.ofChange Rows.segmentScansSpec) false w args)
      (Rows.segmentScansSpec.post enc Tryd.prog Tryd.f8 false true false false) := by
  refine returnsInHanded_of_change_and (C := Tryd.checked) (X := fun w _ => laidMetH Tryd.prog Rows.segmentScansRow.laid w) (fun _ _ _ hh h => h.of_heap hh) own started (by kernel_rfl) Tryd.func8
    (ChangeSpec.witness_shaped (enc := enc) (C := Tryd.checked) (os := os) (X := fun w _ => laidMetH Tryd.prog Rows.segmentScansRow.laid w) false (World.doorLaid Tryd.prog 400 os) #[.slice none 0 0, .int .u32 0, .int .u8 0, .agg #[.int .u64 0, .int .u64 0, .int .i64 0, .int .i64 0]] 8 rfl (World.shaped_of_RefB (by kernel_rfl) (by kernel_rfl)) (by kernel_rfl) (by kernel_rfl) (by kernel_rfl) (door_met os _)) ?_
  intro W base args ds gs before hval0 hW hcnd hsz0 hL _
  have hsz : (DataW.weightsEach Tryd.prog (Tryd.f8.params.toList ++ Rows.segmentScansSpec.plain.varTypes Tryd.prog) (ds ++ gs)).all (· ≤ reachBytes) = true := hsz0
  have hval : ∀ (j : Nat) t v, Tryd.f8.params[j]? = some t → args[j]? = some v → Value.okWide Tryd.prog W .any base t v := hval0
  have hW' := hW
  obtain ⟨p, q, hA0, hV, rfl, hfz, hnd⟩ := hW
  have hA : DataW.TrodAll enc Tryd.prog W 0 (fun _ => true) true Tryd.f8.params.toList args.toList ds p := hA0
  rw [Tryd.params8] at hA hval hsz
  obtain ⟨v0, vs0, d0, ds0, p0, q0, hargs, rfl, rfl, h0, r0⟩ := trodAll_cons hA
  obtain ⟨v1, vs1, d1, ds1, p1, q1, rfl, rfl, rfl, h1, r1⟩ := trodAll_cons r0
  obtain ⟨v2, vs2, d2, ds2, p2, q2, rfl, rfl, rfl, h2, r2⟩ := trodAll_cons r1
  obtain ⟨v3, vs3, d3, ds3, p3, q3, rfl, rfl, rfl, h3, r3⟩ := trodAll_cons r2
  obtain ⟨rfl, rfl, rfl⟩ := trodAll_nil r3
  obtain rfl : args = #[v0, v1, v2, v3] := by cases args; simp_all
  obtain ⟨rfl, rfl⟩ := trodVars_none hV
  have k0 := h0
  have lt0 : ∀ x ∈ p0, x.block < W.heap.size := by obtain ⟨m, hm⟩ := k0; exact DataW.trod_lt m _ _ _ hm
  obtain ⟨x0, hx0, g0⟩ := Opens.arg (opSl Tryd.underlying22 ce44 (Nat.succ_pos _) by44 op44) h0 (Wt.of hsz (j := 0) rfl rfl)
  obtain ⟨A0, n0, c0, rfl⟩ := okWide_slice Tryd.underlying22 (hval 0 22 v0 rfl rfl)
  obtain ⟨A0', n0', c0', he0, i0⟩ := hx0
  cases (show [Value.slice A0 n0 c0] = [Value.slice A0' n0' c0'] from he0)
  have k1 := h1
  have lt1 : ∀ x ∈ p1, x.block < W.heap.size := by obtain ⟨m, hm⟩ := k1; exact DataW.trod_lt m _ _ _ hm
  obtain ⟨x1, hx1, g1⟩ := Opens.arg (opI Tryd.underlying48) h1 (Wt.of hsz (j := 1) rfl rfl)
  obtain ⟨u1, rfl⟩ := okWide_int Tryd.underlying48 (hval 1 48 v1 rfl rfl)
  cases (show [Value.int .u32 u1] = [Value.int .u32 x1] from hx1)
  have k2 := h2
  have lt2 : ∀ x ∈ p2, x.block < W.heap.size := by obtain ⟨m, hm⟩ := k2; exact DataW.trod_lt m _ _ _ hm
  obtain ⟨x2, hx2, g2⟩ := Opens.arg (opI Tryd.underlying5) h2 (Wt.of hsz (j := 2) rfl rfl)
  obtain ⟨u2, rfl⟩ := okWide_int Tryd.underlying5 (hval 2 5 v2 rfl rfl)
  cases (show [Value.int .u8 u2] = [Value.int .u8 x2] from hx2)
  have k3 := h3
  have lt3 : ∀ x ∈ p3, x.block < W.heap.size := by obtain ⟨m, hm⟩ := k3; exact DataW.trod_lt m _ _ _ hm
  obtain ⟨x3, hx3, g3⟩ := Opens.arg op33 h3 (Wt.of hsz (j := 3) rfl rfl)
  obtain ⟨⟨u3⟩, rfl, _⟩ := okWide_struct Tryd.underlying33 (hval 3 33 v3 rfl rfl)
  cases (show u3 = [.int .u64 x3.f0, .int .u64 x3.f1, .int .i64 x3.f2, .int .i64 x3.f3] from hx3)
  clear hA0 hval0 hsz0 hsz
  refine Calls.mono (M.F_law07_SegmentScans (Z := HeapZ W) (wz := W) x0 x1 x2 x3 A0 n0 c0 (hP x0 x1 x2 x3 g0 g1 g2 g3) i0 (of_laid hL) (L := []) (SH.start W)) ?_
  rintro e W' ⟨v, rfl, Z', wz', rfl, hs, hS⟩
  have bel := SH.below hS hs
  exact ⟨_, rfl, _, _, _, [], _, [], hW', trodAll_mk1 (shut_bool Tryd.underlying4 _), (trodAll_cons_mk (Below.trod laidOut (by kernel_rfl) (of_decide_eq_true (by kernel_rfl)) k0 bel lt0) (trodAll_cons_mk (Below.trod laidOut (by kernel_rfl) (of_decide_eq_true (by kernel_rfl)) k1 bel lt1) (trodAll_cons_mk (Below.trod laidOut (by kernel_rfl) (of_decide_eq_true (by kernel_rfl)) k2 bel lt2) (trodAll_cons_mk (Below.trod laidOut (by kernel_rfl) (of_decide_eq_true (by kernel_rfl)) k3 bel lt3) trodAll_mk0)))), rfl, bel.frame _, fun h => by cases h⟩
theorem over (hP : Pure) : Rows.segmentScansRow.holds Tryd.pinned (OpenSpec.ofChange Rows.segmentScansSpec) :=
  OpenClaim.holds_of_wide 8 Tryd.f8 rfl rfl rfl rfl rfl rfl rfl ⟨rfl, rfl, rfl, rfl, rfl⟩ rfl rfl rfl rfl rfl (by kernel_rfl) Tryd.func8 (by kernel_rfl)
    (of_decide_eq_true (by kernel_rfl)) (by unfold Func.isWrapper; first | (rw [if_pos (by decide +kernel)]; kernel_rfl) | (rw [if_neg (by decide +kernel)]; exact ⟨rfl, rfl⟩))
    (fun os started H enc _ => lifted hP os started H enc)
def hrn : Bool × String := Rows.segmentScansCard.stood.harness
theorem card (hP : Pure) : Rows.SegmentScansCardSaid :=
  Claim7.holds_tied_plain_at .later [] [.data] true hrn true
    (over hP) (fun _ h => by cases h) (by kernel_rfl) (fun _ h => by cases h) segmentScans_row_tie rfl ⟨rfl, rfl⟩ (by kernel_rfl) rfl
    (fun f fn hf hfn => by
      obtain rfl : f = 8 := Option.some.inj ((show Tryd.prog.funcNamed "headrace/headracelaw07.SegmentScans" = some 8 by kernel_rfl).symm.trans hf) |>.symm
      obtain rfl : fn = Tryd.f8 := (Option.some.inj (Tryd.func8.symm.trans hfn)).symm
      exact ⟨by kernel_rfl, fun j t ht => by
        rw [Tryd.params8] at ht
        have hm : t ∈ [22, 48, 5, 33] := by simpa using Array.mem_of_getElem? ht
        have hall : ([22, 48, 5, 33].all fun u => !Tryd.prog.wantsStandIn u) = true := by kernel_rfl
        exact (show Tryd.prog.wantsStandIn t = false by simpa using List.all_eq_true.1 hall t hm)⟩)
    (by kernel_rfl)
end Go.Proofs.YteodeedejjcmgaaDoor.segmentScans
namespace Go.Proofs.YteodeedejjcmgaaDoor.P
open Go Go.RowKit Go.Proofs.YteodeedejjcmgaaDoor.E Go.Proofs.YteodeedejjcmgaaDoor.M
set_option linter.unusedVariables false
set_option linter.unusedSectionVars false
theorem at_nat {α : Type} (xs : List α) (n : Nat) : at_ xs (n : Int) = xs[n]? := by simp [at_]
theorem at_int {α : Type} {xs : List α} {i : Int} {n : Nat} {x : α} (hi : i = n) (h : xs[n]? = some x) : at_ xs i = some x := by subst hi; rw [at_nat, h]
theorem cut_nat {α : Type} {xs : List α} {l u : Nat} (h : l ≤ u) (hu : u ≤ xs.length) : cut_ xs (l : Int) (u : Int) = some ((xs.take u).drop l) := by
 unfold cut_; rw [if_pos (by omega)]; simp
theorem chk_pos {α : Type} {p : Prop} [Decidable p] {x : Option α} (h : p) : chk p x = x := if_pos h
theorem w64 {n : Int} (h : -9223372036854775808 ≤ n) (h' : n ≤ 9223372036854775807) : IntKind.i64.wrap n = n := IntWalk.i64_in n ⟨h, h'⟩
theorem u64w {n : Int} (h : 0 ≤ n) (h' : n < 18446744073709551616) : IntKind.u64.wrap n = n := IntWalk.u64_in n ⟨h, by omega⟩
theorem u8w {n : Int} (h : 0 ≤ n) (h' : n < 256) : IntKind.u8.wrap n = n := IntWalk.u8_in n ⟨h, by omega⟩
theorem lt_ {α β : Type} (e : α) (f : α → Option β) : ltt e f = f e := rfl
theorem loop_at {σ τ : Type} {b : σ → Option (σ ⊕ τ)} (f : Nat → σ) {t : τ} : ∀ (n : Nat) (i : Nat), (∀ k, i ≤ k → k < i + n → b (f k) = some (.inl (f (k + 1)))) → b (f (i + n)) = some (.inr t) → loop b (f i) = some t
 | 0, i, _, he => loop_end he
 | n + 1, i, hs, he => (loop_nxt (hs i (Nat.le_refl _) (by omega))).trans (loop_at f n (i + 1) (fun k h1 h2 => hs k (by omega) (by omega)) (by rw [show i + 1 + n = i + (n + 1) by omega]; exact he))
theorem loop_to {σ τ : Type} {b : σ → Option (σ ⊕ τ)} (f : Nat → σ) {t : τ} (n : Nat) (hs : ∀ k, k < n → b (f k) = some (.inl (f (k + 1)))) (he : b (f n) = some (.inr t)) : loop b (f 0) = some t :=
 loop_at f n 0 (fun k _ h => hs k (by omega)) (by simpa using he)
theorem ofInt_nat (n a : Nat) : BitVec.ofInt n (a : Int) = BitVec.ofNat n a := BitVec.ofInt_natCast n a
theorem u64_nat (a : Nat) : IntKind.u64.wrap (a : Int) = ((a % 18446744073709551616 : Nat) : Int) := by
 rw [IntKind.wrap_u64]; omega
theorem u8_nat (a : Nat) : IntKind.u8.wrap (a : Int) = ((a % 256 : Nat) : Int) := by rw [IntKind.wrap_u8]; omega
theorem iand_u64 {a b : Nat} (ha : a < 18446744073709551616) (hb : b < 18446744073709551616) : iand .u64 (a : Int) (b : Int) = ((a &&& b : Nat) : Int) := by
 unfold iand
 rw [ofInt_nat, ofInt_nat, u64_nat]
 have h : a &&& b < 18446744073709551616 := Nat.lt_of_le_of_lt Nat.and_le_left ha
 simp only [BitVec.toNat_and, BitVec.toNat_ofNat, show IntKind.u64.bits = 64 from rfl]
 rw [Nat.mod_eq_of_lt (show a < 2 ^ 64 by omega), Nat.mod_eq_of_lt (show b < 2 ^ 64 by omega), Nat.mod_eq_of_lt h]
theorem iand_u8 {a b : Nat} (ha : a < 256) (hb : b < 256) : iand .u8 (a : Int) (b : Int) = ((a &&& b : Nat) : Int) := by
 unfold iand
 rw [ofInt_nat, ofInt_nat, u8_nat]
 have h : a &&& b < 256 := Nat.lt_of_le_of_lt Nat.and_le_left ha
 simp only [BitVec.toNat_and, BitVec.toNat_ofNat, show IntKind.u8.bits = 8 from rfl]
 rw [Nat.mod_eq_of_lt (show a < 2 ^ 8 by omega), Nat.mod_eq_of_lt (show b < 2 ^ 8 by omega), Nat.mod_eq_of_lt h]
theorem ior_u64 {a b : Nat} (ha : a < 18446744073709551616) (hb : b < 18446744073709551616) : ior .u64 (a : Int) (b : Int) = ((a ||| b : Nat) : Int) := by
 unfold ior
 rw [ofInt_nat, ofInt_nat, u64_nat]
 have h : a ||| b < 2 ^ 64 := Nat.or_lt_two_pow (show a < 2 ^ 64 by omega) (show b < 2 ^ 64 by omega)
 simp only [BitVec.toNat_or, BitVec.toNat_ofNat, show IntKind.u64.bits = 64 from rfl]
 rw [Nat.mod_eq_of_lt (show a < 2 ^ 64 by omega), Nat.mod_eq_of_lt (show b < 2 ^ 64 by omega), Nat.mod_eq_of_lt (show a ||| b < 18446744073709551616 from h)]
theorem ior_u8 {a b : Nat} (ha : a < 256) (hb : b < 256) : ior .u8 (a : Int) (b : Int) = ((a ||| b : Nat) : Int) := by
 unfold ior
 rw [ofInt_nat, ofInt_nat, u8_nat]
 have h : a ||| b < 2 ^ 8 := Nat.or_lt_two_pow (show a < 2 ^ 8 by omega) (show b < 2 ^ 8 by omega)
 simp only [BitVec.toNat_or, BitVec.toNat_ofNat, show IntKind.u8.bits = 8 from rfl]
 rw [Nat.mod_eq_of_lt (show a < 2 ^ 8 by omega), Nat.mod_eq_of_lt (show b < 2 ^ 8 by omega), Nat.mod_eq_of_lt (show a ||| b < 256 from h)]
theorem ixor_u64 {a b : Nat} (ha : a < 18446744073709551616) (hb : b < 18446744073709551616) : ixor .u64 (a : Int) (b : Int) = ((a ^^^ b : Nat) : Int) := by
 unfold ixor
 rw [ofInt_nat, ofInt_nat, u64_nat]
 have h : a ^^^ b < 2 ^ 64 := Nat.xor_lt_two_pow (show a < 2 ^ 64 by omega) (show b < 2 ^ 64 by omega)
 simp only [BitVec.toNat_xor, BitVec.toNat_ofNat, show IntKind.u64.bits = 64 from rfl]
 rw [Nat.mod_eq_of_lt (show a < 2 ^ 64 by omega), Nat.mod_eq_of_lt (show b < 2 ^ 64 by omega), Nat.mod_eq_of_lt (show a ^^^ b < 18446744073709551616 from h)]
theorem two_pow (n : Nat) : (2 : Int) ^ n = ((2 ^ n : Nat) : Int) := (Int.natCast_pow 2 n).symm
theorem ishr_nat {k : IntKind} (a n : Nat) (h : n ≤ k.bits) : ishr k (a : Int) (n : Int) = ((a / 2 ^ n : Nat) : Int) := by
 unfold ishr
 rw [Int.toNat_natCast, Nat.min_eq_left h, two_pow, Int.fdiv_eq_ediv_of_nonneg _ (Int.natCast_nonneg _)]
 rfl
theorem ishl_u64 (a n : Nat) (h : n ≤ 64) : ishl .u64 (a : Int) (n : Int) = ((a * 2 ^ n % 18446744073709551616 : Nat) : Int) := by
 unfold ishl
 rw [Int.toNat_natCast, show min n IntKind.u64.bits = n from Nat.min_eq_left h, two_pow, ← Int.natCast_mul, u64_nat]
theorem ishl_u8 (a n : Nat) (h : n ≤ 8) : ishl .u8 (a : Int) (n : Int) = ((a * 2 ^ n % 256 : Nat) : Int) := by
 unfold ishl
 rw [Int.toNat_natCast, show min n IntKind.u8.bits = n from Nat.min_eq_left h, two_pow, ← Int.natCast_mul, u8_nat]
theorem or_top {a n : Nat} (h : a < 2 ^ n) (b : Nat) : a ||| (b * 2 ^ n) = a + b * 2 ^ n := by
 rw [Nat.or_comm, Nat.mul_comm, ← Nat.two_pow_add_eq_or_of_lt h, Nat.add_comm]
def uv (n : Nat) : List Int := if h : n < 128 then [(n : Int)] else ((n % 128 + 128 : Nat) : Int) :: uv (n / 128)
termination_by n
decreasing_by omega
theorem uv_small {n : Nat} (h : n < 128) : uv n = [(n : Int)] := by rw [uv, dif_pos h]
theorem uv_large {n : Nat} (h : ¬ n < 128) : uv n = ((n % 128 + 128 : Nat) : Int) :: uv (n / 128) := by rw [uv, dif_neg h]
theorem uv_length : ∀ (k n : Nat), n < 128 ^ (k + 1) → (uv n).length ≤ k + 1
 | 0, n, h => by rw [uv_small (by simpa using h)]; simp
 | k + 1, n, h => by
  by_cases hn : n < 128
  ·rw [uv_small hn]; simp
  ·rw [uv_large hn, List.length_cons]
   have := uv_length k (n / 128) (by rw [Nat.pow_succ] at h; exact Nat.div_lt_of_lt_mul (by rw [Nat.mul_comm]; exact h))
   omega
theorem uv_length64 {n : Nat} (h : n < 18446744073709551616) : (uv n).length ≤ 10 := uv_length 9 n (by omega)
set_option maxRecDepth 100000 in
theorem or_128 : ∀ m : Fin 256, (m.val ||| 128) = m.val % 128 + 128 := by decide
theorem Uint_app (n : Nat) : ∀ (a0 : List Int), n < 18446744073709551616 → a0.length + (uv n).length ≤ 140737488355328 → column_Uint a0 (n : Int) = some (a0 ++ uv n) := by
 induction n using Nat.strongRecOn with
 | _ n ih =>
  intro a0 h hl
  unfold column_Uint
  by_cases hn : n < 128
  ·rw [loop_end (t := (a0, (n : Int))) (by
    show column_Uint_l1 a0 (n : Int) = _
    unfold column_Uint_l1
    rw [if_neg (by simp only [decide_eq_true_eq]; omega)])]
   simp only [Option.bind_some]
   unfold column_Uint_x1_0 column_Uint_b1
   rw [uv_small hn] at hl ⊢
   rw [lt_, u8w (by omega) (by omega), chk_pos (by simpa using hl)]
  ·have hl' := hl
   rw [uv_large hn, List.length_cons] at hl'
   have e1 : IntKind.u8.wrap (n : Int) = ((n % 256 : Nat) : Int) := u8_nat n
   have e2 : ior .u8 ((n % 256 : Nat) : Int) 128 = ((n % 128 + 128 : Nat) : Int) := by
    have := ior_u8 (a := n % 256) (b := 128) (by omega) (by omega)
    rw [show ((128 : Nat) : Int) = 128 from rfl] at this
    rw [this, or_128 ⟨n % 256, by omega⟩]
    simp only
    omega
   have e3 : ishr .u64 (n : Int) 7 = ((n / 128 : Nat) : Int) := ishr_nat (k := .u64) n 7 (by decide)
   rw [loop_nxt (s' := (a0 ++ [((n % 128 + 128 : Nat) : Int)], ((n / 128 : Nat) : Int))) (by
    show column_Uint_l1 a0 (n : Int) = _
    unfold column_Uint_l1
    rw [if_pos (by simp only [decide_eq_true_eq]; omega), lt_, e1, lt_, e2, chk_pos (by simp; omega), lt_, e3])]
   have := ih (n / 128) (by omega) (a0 ++ [((n % 128 + 128 : Nat) : Int)]) (by omega) (by simp; omega)
   unfold column_Uint at this
   rw [this, uv_large hn]
   simp
def zz (i : Int) : Nat := if i < 0 then (-(i + 1)).toNat * 2 + 1 else i.toNat * 2
def uz (n : Nat) : Int := if n % 2 = 1 then -((n / 2 : Nat) : Int) - 1 else ((n / 2 : Nat) : Int)
theorem uz_zz (i : Int) : uz (zz i) = i := by unfold uz zz; split <;> split <;> omega
def i64 (i : Int) : Prop := -9223372036854775808 ≤ i ∧ i ≤ 9223372036854775807
theorem zz_lt {i : Int} (h : i64 i) : zz i < 18446744073709551616 := by
 unfold i64 at h
 unfold zz; split <;> omega
theorem i64_wrap (x : Int) : i64 (IntKind.i64.wrap x) := by
 rw [IntWalk.i64_left]; unfold wrap64 i64; omega
theorem xor_ones {a : Nat} (h : a < 18446744073709551616) : ixor .u64 (a : Int) 18446744073709551615 = ((18446744073709551615 - a : Nat) : Int) := by
 show IntKind.u64.wrap (((BitVec.ofInt 64 (a : Int) ^^^ BitVec.allOnes 64).toNat : Nat) : Int) = _
 rw [ofInt_nat, BitVec.xor_allOnes, u64_nat, BitVec.toNat_not, BitVec.toNat_ofNat, Nat.mod_eq_of_lt (show a < 2 ^ 64 by omega)]
 omega
theorem zz_eq {i : Int} (h : i64 i) : ixor .u64 (IntKind.u64.wrap (ishl .i64 i 1)) (IntKind.u64.wrap (ishr .i64 i 63)) = (zz i : Int) := by
 unfold i64 at h
 have e1 : ishl .i64 i 1 = IntKind.i64.wrap (i * 2) := rfl
 have e2 : ishr .i64 i 63 = if i < 0 then -1 else 0 := by
  unfold ishr
  rw [show (63 : Int).toNat = 63 from rfl, show min 63 IntKind.i64.bits = 63 from rfl, Int.fdiv_eq_ediv_of_nonneg _ (by decide)]
  split <;> omega
 rw [e1, e2]
 have e3 : IntKind.u64.wrap (IntKind.i64.wrap (i * 2)) = (i * 2) % 18446744073709551616 := by
  rw [IntKind.wrap_u64, IntWalk.i64_left]; unfold wrap64; omega
 rw [e3]
 unfold zz
 by_cases hi : i < 0
 ·rw [if_pos hi, if_pos hi, show IntKind.u64.wrap (-1) = 18446744073709551615 from rfl]
  obtain ⟨m, hm⟩ : ∃ m : Nat, (i * 2) % 18446744073709551616 = (m : Int) := ⟨((i * 2) % 18446744073709551616).toNat, by omega⟩
  rw [hm, xor_ones (by omega)]
  omega
 ·rw [if_neg hi, if_neg hi, show IntKind.u64.wrap 0 = ((0 : Nat) : Int) from rfl]
  obtain ⟨m, hm⟩ : ∃ m : Nat, (i * 2) % 18446744073709551616 = (m : Int) := ⟨((i * 2) % 18446744073709551616).toNat, by omega⟩
  rw [hm, ixor_u64 (by omega) (by omega), Nat.xor_zero]
  omega
theorem Int_app {i : Int} (h : i64 i) (a0 : List Int) (hl : a0.length + 10 ≤ 140737488355328) : column_Int a0 i = some (a0 ++ uv (zz i)) := by
 unfold column_Int
 have := uv_length64 (zz_lt h)
 simp only [lt_, zz_eq h, Uint_app _ a0 (zz_lt h) (by omega), Option.bind_some]
theorem Text_app (s : List UInt8) (a0 : List Int) (hs : s.length ≤ 9223372036854775807) (hl : a0.length + s.length + 10 ≤ 140737488355328) : column_Text a0 s = some (a0 ++ uv s.length ++ stb s) := by
 unfold column_Text
 have := uv_length64 (n := s.length) (by omega)
 rw [lt_, u64w (by omega) (by omega), Uint_app _ a0 (by omega) (by omega)]
 simp only [Option.bind_some]
 rw [chk_pos (by simp; omega)]
def Bs (xs : List Int) : Prop := ∀ b ∈ xs, 0 ≤ b ∧ b < 256
theorem Bs.nil : Bs [] := fun _ h => by cases h
theorem Bs.cons {b : Int} {xs : List Int} (h : Bs (b :: xs)) : (0 ≤ b ∧ b < 256) ∧ Bs xs := ⟨h b List.mem_cons_self, fun c hc => h c (List.mem_cons_of_mem _ hc)⟩
theorem Bs.mk {b : Int} {xs : List Int} (hb : 0 ≤ b ∧ b < 256) (h : Bs xs) : Bs (b :: xs) := fun c hc => by
 rcases List.mem_cons.1 hc with rfl | hc
 ·exact hb
 ·exact h c hc
theorem Bs.app {xs ys : List Int} (h : Bs xs) (h' : Bs ys) : Bs (xs ++ ys) := fun c hc => (List.mem_append.1 hc).elim (h c) (h' c)
theorem Bs.l {xs ys : List Int} (h : Bs (xs ++ ys)) : Bs xs := fun c hc => h c (List.mem_append.2 (.inl hc))
theorem Bs.r {xs ys : List Int} (h : Bs (xs ++ ys)) : Bs ys := fun c hc => h c (List.mem_append.2 (.inr hc))
theorem Bs.drop {xs : List Int} (h : Bs xs) (n : Nat) : Bs (xs.drop n) := fun c hc => h c (List.mem_of_mem_drop hc)
theorem Bs.take {xs : List Int} (h : Bs xs) (n : Nat) : Bs (xs.take n) := fun c hc => h c (List.mem_of_mem_take hc)
theorem Bs.uv (n : Nat) : Bs (uv n) := by
 induction n using Nat.strongRecOn with
 | _ n ih =>
  by_cases hn : n < 128
  ·rw [uv_small hn]; exact Bs.mk (by omega) Bs.nil
  ·rw [uv_large hn]; exact Bs.mk (by omega) (ih _ (by omega))
theorem Bs.stb (s : List UInt8) : Bs (stb s) := by
 intro c hc
 unfold E.stb at hc
 obtain ⟨b, _, rfl⟩ := List.mem_map.1 hc
 have := b.toNat_lt
 omega
def pB : List Int → Option (Int × List Int)
 | [] => none
 | b :: r => some (b, r)
def pV (i n : Nat) : List Int → Option (Nat × List Int)
 | [] => none
 | b :: r => if i < 9 ∨ (i = 9 ∧ b < 2) then
   (if b < 128 then (if i = 0 ∨ 0 < b then some (n + b.toNat % 128 * 2 ^ (7 * i), r) else none) else pV (i + 1) (n + b.toNat % 128 * 2 ^ (7 * i)) r)
  else none
def pU (most : Int) (xs : List Int) : Option (Int × List Int) := match pV 0 0 xs with
 | some (n, r) => if (n : Int) ≤ most then some ((n : Int), r) else none
 | none => none
def pI (xs : List Int) : Option (Int × List Int) := match pU 18446744073709551615 xs with
 | some (n, r) => some (uz n.toNat, r)
 | none => none
def pT (most : Int) (xs : List Int) : Option (List UInt8 × List Int) := match pU (IntKind.u64.wrap most) xs with
 | some (n, r) => if n ≤ (r.length : Int) then some (bts (r.take n.toNat), r.drop n.toNat) else none
 | none => none
def IsR {ρ : Type} (o : Option ((ρ × S106) ⊕ S106)) (p : Option (ρ × List Int)) : Prop :=
 match p with
 | some (a, r) => o = some (.inl (a, ⟨r⟩))
 | none => ∃ s, o = some (.inr s)
theorem IsR.cases {ρ : Type} {o : Option ((ρ × S106) ⊕ S106)} {p : Option (ρ × List Int)} (h : IsR o p) : (∃ a r, p = some (a, r) ∧ o = some (.inl (a, ⟨r⟩))) ∨ (p = none ∧ ∃ s, o = some (.inr s)) := by
 unfold IsR at h
 split at h
 ·exact .inl ⟨_, _, rfl, h⟩
 ·exact .inr ⟨rfl, h⟩
theorem s_inl {α β γ : Type} (a : α) (f : α → Option γ) (g : β → Option γ) : sum_ (.inl a) f g = f a := rfl
theorem Check_t (s : S106) : column_Reader_Check s true = some (.inl s) := rfl
theorem Check_f (s : S106) : column_Reader_Check s false = some (.inr s) := rfl
theorem Byte_is (xs : List Int) : IsR (column_Reader_Byte ⟨xs⟩) (pB xs) := by
 unfold column_Reader_Byte
 cases xs with
 | nil => exact ⟨_, rfl⟩
 | cons b r =>
  rw [show decide (0 < (((⟨b :: r⟩ : S106).f0.length : Nat) : Int)) = true by simp, Check_t]
  simp only [Option.bind_some, s_inl]
  have h1 : at_ (b :: r) 0 = some b := rfl
  have h2 : cut_ (b :: r) 1 ((b :: r).length : Int) = some r := by
   have := cut_nat (xs := b :: r) (l := 1) (u := (b :: r).length) (by simp) (Nat.le_refl _)
   rw [show ((1 : Nat) : Int) = 1 from rfl, List.take_length] at this
   exact this
  rw [h1]
  simp only [Option.bind_some]
  rw [h2]
  rfl
theorem and_127 (a : Nat) : a &&& 127 = a % 128 := Nat.and_two_pow_sub_one_eq_mod a 7
theorem pV_lt : ∀ (xs : List Int) (i n m : Nat) (r : List Int), n < 2 ^ (7 * i) → n < 18446744073709551616 → pV i n xs = some (m, r) → m < 18446744073709551616 ∧ ∃ p, xs = p ++ r ∧ 0 < p.length
 | [], i, n, m, r, _, _, h => by cases h
 | b :: xs, i, n, m, r, h1, h2, h => by
  unfold pV at h
  split at h
  ·rename_i hc
   have hlt : n + b.toNat % 128 * 2 ^ (7 * i) < 18446744073709551616 ∧ n + b.toNat % 128 * 2 ^ (7 * i) < 2 ^ (7 * (i + 1)) := by
    have hp : 2 ^ (7 * (i + 1)) = 128 * 2 ^ (7 * i) := by rw [show 7 * (i + 1) = 7 + 7 * i by omega, Nat.pow_add]
    have hm : b.toNat % 128 * 2 ^ (7 * i) ≤ 127 * 2 ^ (7 * i) := Nat.mul_le_mul_right _ (by omega)
    refine ⟨?_, by rw [hp]; omega⟩
    rcases hc with hc | ⟨hc, hb⟩
    ·have : 2 ^ (7 * i) ≤ 2 ^ 56 := Nat.pow_le_pow_right (by decide) (by omega)
     omega
    ·subst hc
     have : b.toNat % 128 * 2 ^ (7 * 9) ≤ 1 * 2 ^ (7 * 9) := Nat.mul_le_mul_right _ (by omega)
     omega
   split at h
   ·split at h
    ·cases h
     exact ⟨hlt.1, [b], rfl, by simp⟩
    ·cases h
   ·obtain ⟨q1, p, rfl, q3⟩ := pV_lt xs (i + 1) _ m r hlt.2 hlt.1 h
    exact ⟨q1, b :: p, rfl, by simp⟩
  ·cases h
theorem Uloop (most : Int) : ∀ (xs : List Int) (i n : Nat), Bs xs → i ≤ 10 → n < 2 ^ (7 * i) → n < 18446744073709551616 →
  IsR (loop (fun s : List Int × Int × Int => column_Reader_Uint_l1 most s.1 s.2.1 s.2.2) (xs, (n : Int), (i : Int))) (match pV i n xs with | some (m, r) => if (m : Int) ≤ most then some ((m : Int), r) else none | none => none)
 | [], i, n, hB, hi, h1, h2 => ⟨⟨[]⟩, loop_end rfl⟩
 | b :: xs, i, n, hB, hi, h1, h2 => by
  obtain ⟨hb, hB'⟩ := hB.cons
  generalize hpv : pV i n (b :: xs) = pv
  have hby : column_Reader_Byte ⟨b :: xs⟩ = some (.inl (b, ⟨xs⟩)) := Byte_is (b :: xs)
  obtain ⟨c, rfl⟩ : ∃ c : Nat, b = (c : Int) := ⟨b.toNat, by omega⟩
  have hcase : (c : Int) < 128 ∨ 128 ≤ (c : Int) := by omega
  by_cases hc : i < 9 ∨ (i = 9 ∧ (c : Int) < 2)
  · -- the byte is taken
   have hp : 2 ^ (7 * (i + 1)) = 128 * 2 ^ (7 * i) := by rw [show 7 * (i + 1) = 7 + 7 * i by omega, Nat.pow_add]
   have hm : c % 128 * 2 ^ (7 * i) ≤ 127 * 2 ^ (7 * i) := Nat.mul_le_mul_right _ (by omega)
   have hlt : c % 128 * 2 ^ (7 * i) < 18446744073709551616 ∧ n + c % 128 * 2 ^ (7 * i) < 18446744073709551616 := by
    rcases hc with hc | ⟨hc, hb⟩
    ·have : 2 ^ (7 * i) ≤ 2 ^ 56 := Nat.pow_le_pow_right (by decide) (by omega)
     omega
    ·subst hc
     have : c % 128 * 2 ^ (7 * 9) ≤ 1 * 2 ^ (7 * 9) := Nat.mul_le_mul_right _ (by omega)
     omega
   have hlt2 : n + c % 128 * 2 ^ (7 * i) < 2 ^ (7 * (i + 1)) := by rw [hp]; omega
   obtain ⟨m, hm'⟩ : ∃ m, m = n + c % 128 * 2 ^ (7 * i) := ⟨_, rfl⟩
   have e1 : iand .u8 (c : Int) 127 = ((c % 128 : Nat) : Int) := by
    have := iand_u8 (a := c) (b := 127) (by omega) (by omega)
    rw [show ((127 : Nat) : Int) = 127 from rfl] at this
    rw [this, and_127]
   have e2 : IntKind.i64.wrap (7 * (i : Int)) = ((7 * i : Nat) : Int) := by rw [w64 (by omega) (by omega)]; omega
   have e3 : ishl .u64 ((c % 128 : Nat) : Int) ((7 * i : Nat) : Int) = ((c % 128 * 2 ^ (7 * i) : Nat) : Int) := by
    rw [ishl_u64 _ _ (by omega), Nat.mod_eq_of_lt hlt.1]
   have e4 : ior .u64 (n : Int) ((c % 128 * 2 ^ (7 * i) : Nat) : Int) = (m : Int) := by rw [ior_u64 h2 hlt.1, or_top h1, hm']
   have hl1 : column_Reader_Uint_l1 most ((c : Int) :: xs) (n : Int) (i : Int) = column_Reader_Uint_j1 most (n : Int) (i : Int) ((c : Int), ⟨xs⟩) xs := by
    unfold column_Reader_Uint_l1
    rw [hby]
    simp only [Option.bind_some, s_inl]
    rcases hc with hc | ⟨hc, hc2⟩
    ·rw [if_pos (by simp only [decide_eq_true_eq]; omega), Check_t]; rfl
    ·rw [if_neg (by simp only [decide_eq_true_eq]; omega), if_pos (by subst hc; rfl), show decide ((c : Int) < 2) = true by simpa using hc2, Check_t]; rfl
   have hj : column_Reader_Uint_j1 most (n : Int) (i : Int) ((c : Int), ⟨xs⟩) xs = if (c : Int) < 128 then (if (m : Int) ≤ most ∧ (i = 0 ∨ 0 < (c : Int)) then some (.inr (.inl ((m : Int), ⟨xs⟩))) else some (.inr (.inr ⟨xs⟩))) else some (.inl (xs, (m : Int), ((i + 1 : Nat) : Int))) := by
    unfold column_Reader_Uint_j1
    simp only [lt_]
    rw [e1, u64w (by omega) (by omega), e2, chk_pos (by omega), e3, e4]
    by_cases hc1 : (c : Int) < 128
    ·rw [if_pos (by simpa using hc1), if_pos hc1]
     by_cases hmo : (m : Int) ≤ most
     ·rw [if_pos (by simpa using hmo)]
      by_cases hi0 : i = 0
      ·subst hi0
       rw [if_pos (by rfl), Check_t, if_pos ⟨hmo, .inl rfl⟩]
       rfl
      ·rw [if_neg (by simpa using hi0)]
       by_cases hc0 : 0 < (c : Int)
       ·rw [show decide (0 < (c : Int)) = true by simpa using hc0, Check_t, if_pos ⟨hmo, .inr hc0⟩]; rfl
       ·rw [show decide (0 < (c : Int)) = false by simpa using hc0, Check_f, if_neg (by rintro ⟨_, q | q⟩; exact hi0 q; exact hc0 q)]; rfl
     ·rw [if_neg (by simpa using hmo), Check_f, if_neg (fun q => hmo q.1)]; rfl
    ·rw [if_neg (by simpa using hc1), if_neg hc1, w64 (by omega) (by omega)]; rfl
   rw [pV, if_pos hc, Int.toNat_natCast, ← hm'] at hpv
   rcases hcase with hc1 | hc1
   ·rw [if_pos hc1] at hj hpv
    by_cases h0 : i = 0 ∨ 0 < (c : Int)
    ·rw [if_pos h0] at hpv
     subst hpv
     simp only
     by_cases hmo : (m : Int) ≤ most
     ·rw [if_pos ⟨hmo, h0⟩] at hj
      rw [if_pos hmo]
      exact loop_end (hl1.trans hj)
     ·rw [if_neg (fun q => hmo q.1)] at hj
      rw [if_neg hmo]
      exact ⟨_, loop_end (hl1.trans hj)⟩
    ·rw [if_neg h0] at hpv
     subst hpv
     rw [if_neg (fun q => h0 q.2)] at hj
     exact ⟨_, loop_end (hl1.trans hj)⟩
   ·rw [if_neg (Int.not_lt.2 hc1)] at hj hpv
    rw [loop_nxt (hl1.trans hj)]
    subst hpv
    exact Uloop most xs (i + 1) m hB' (by omega) (by rw [hm']; exact hlt2) (by rw [hm']; exact hlt.2)
  ·rw [pV, if_neg hc] at hpv
   subst hpv
   refine ⟨_, loop_end (t := Sum.inr ⟨xs⟩) ?_⟩
   show column_Reader_Uint_l1 most ((c : Int) :: xs) (n : Int) (i : Int) = _
   unfold column_Reader_Uint_l1
   rw [hby]
   simp only [Option.bind_some, s_inl]
   rw [if_neg (by simp only [decide_eq_true_eq]; omega)]
   by_cases hi9 : i = 9
   ·rw [if_pos (by subst hi9; rfl), show decide ((c : Int) < 2) = false by simp; omega, Check_f]; rfl
   ·rw [if_neg (by simp; omega), Check_f]; rfl
theorem Uint_is (most : Int) {xs : List Int} (hB : Bs xs) : IsR (column_Reader_Uint ⟨xs⟩ most) (pU most xs) := by
 unfold column_Reader_Uint pU
 have := Uloop most xs 0 0 hB (by omega) (by simp) (by omega)
 simp only [Int.natCast_zero] at this
 rcases this.cases with ⟨a, r, h1, h2⟩ | ⟨h1, s, h2⟩
 ·rw [h1]; show _ = _; rw [h2]; rfl
 ·rw [h1]; exact ⟨s, by rw [h2]; rfl⟩
theorem pU_some {most : Int} {xs r : List Int} {n : Int} (h : pU most xs = some (n, r)) : (0 ≤ n ∧ n < 18446744073709551616 ∧ n ≤ most) ∧ ∃ p, xs = p ++ r ∧ 0 < p.length := by
 unfold pU at h
 split at h
 ·rename_i m r' he
  split at h
  ·cases h
   obtain ⟨h1, h2⟩ := pV_lt _ _ _ _ _ (by simp) (by omega) he
   exact ⟨⟨by omega, by omega, by assumption⟩, h2⟩
  ·cases h
 ·cases h
theorem pU_bs {most : Int} {xs r : List Int} {n : Int} (hB : Bs xs) (h : pU most xs = some (n, r)) : Bs r := by
 obtain ⟨_, p, rfl, _⟩ := pU_some h
 exact hB.r
theorem and_1 (a : Nat) : a &&& 1 = a % 2 := Nat.and_two_pow_sub_one_eq_mod a 1
theorem xor_m1 {a : Nat} (h : a < 9223372036854775808) : ixor .i64 (a : Int) (-1) = -(a : Int) - 1 := by
 show IntKind.i64.wrap (((BitVec.ofInt 64 (a : Int) ^^^ BitVec.allOnes 64).toNat : Nat) : Int) = _
 rw [ofInt_nat, BitVec.xor_allOnes, BitVec.toNat_not, BitVec.toNat_ofNat, Nat.mod_eq_of_lt (show a < 2 ^ 64 by omega), IntWalk.i64_left]
 unfold wrap64
 omega
theorem xor_0 {a : Nat} (h : a < 9223372036854775808) : ixor .i64 (a : Int) 0 = (a : Int) := by
 show IntKind.i64.wrap (((BitVec.ofInt 64 (a : Int) ^^^ 0#64).toNat : Nat) : Int) = _
 rw [ofInt_nat, BitVec.xor_zero, BitVec.toNat_ofNat, Nat.mod_eq_of_lt (show a < 2 ^ 64 by omega), w64 (by omega) (by omega)]
theorem uz_eq {n : Nat} (h : n < 18446744073709551616) : ixor .i64 (IntKind.i64.wrap (ishr .u64 (n : Int) 1)) (IntKind.i64.wrap (0 - IntKind.i64.wrap (iand .u64 (n : Int) 1))) = uz n := by
 have e1 : ishr .u64 (n : Int) 1 = ((n / 2 : Nat) : Int) := ishr_nat (k := .u64) n 1 (by decide)
 have e2 : iand .u64 (n : Int) 1 = ((n % 2 : Nat) : Int) := by
  have := iand_u64 (a := n) (b := 1) h (by omega)
  rw [show ((1 : Nat) : Int) = 1 from rfl] at this
  rw [this, and_1]
 rw [e1, e2, w64 (n := ((n / 2 : Nat) : Int)) (by omega) (by omega), w64 (n := ((n % 2 : Nat) : Int)) (by omega) (by omega), w64 (by omega) (by omega)]
 unfold uz
 by_cases ho : n % 2 = 1
 ·rw [if_pos ho, ho, show (0 : Int) - ((1 : Nat) : Int) = -1 from rfl, xor_m1 (by omega)]
 ·rw [if_neg ho, show n % 2 = 0 by omega, show (0 : Int) - ((0 : Nat) : Int) = 0 from rfl, xor_0 (by omega)]
theorem Int_is {xs : List Int} (hB : Bs xs) : IsR (column_Reader_Int ⟨xs⟩) (pI xs) := by
 unfold column_Reader_Int pI
 rcases (Uint_is 18446744073709551615 hB).cases with ⟨a, r, h1, h2⟩ | ⟨h1, s, h2⟩
 ·rw [h1, h2]
  obtain ⟨⟨q1, q2, _⟩, _⟩ := pU_some h1
  simp only [Option.bind_some, s_inl, lt_]
  have := uz_eq (n := a.toNat) (by omega)
  rw [show ((a.toNat : Nat) : Int) = a by omega] at this
  show _ = _
  rw [this]
 ·rw [h1, h2]
  exact ⟨s, rfl⟩
theorem pI_bs {xs r : List Int} {n : Int} (hB : Bs xs) (h : pI xs = some (n, r)) : Bs r ∧ i64 n ∧ ∃ p, xs = p ++ r ∧ 0 < p.length := by
 unfold pI at h
 split at h
 ·rename_i m r' he
  cases h
  refine ⟨pU_bs hB he, ?_, (pU_some he).2⟩
  have := (pU_some he).1
  unfold i64 uz
  split <;> omega
 ·cases h
theorem Text_is (most : Int) {xs : List Int} (hB : Bs xs) (hl : xs.length < 9223372036854775808) : IsR (column_Reader_Text ⟨xs⟩ most) (pT most xs) := by
 unfold column_Reader_Text pT
 rw [lt_]
 rcases (Uint_is (IntKind.u64.wrap most) hB).cases with ⟨a, r, h1, h2⟩ | ⟨h1, s, h2⟩
 ·rw [h1, h2]
  obtain ⟨⟨q1, q2, _⟩, p, hp, _⟩ := pU_some h1
  have hr : r.length ≤ xs.length := by rw [hp]; simp
  simp only [Option.bind_some, s_inl, lt_]
  rw [u64w (by omega) (by omega)]
  obtain ⟨n, rfl⟩ : ∃ n : Nat, a = (n : Int) := ⟨a.toNat, by omega⟩
  by_cases hn : (n : Int) ≤ (r.length : Int)
  ·rw [show decide ((n : Int) ≤ (r.length : Int)) = true by simpa using hn, Check_t, if_pos hn]
   simp only [Option.bind_some, s_inl]
   have c1 := cut_nat (xs := r) (l := 0) (u := n) (by omega) (by omega)
   have c2 := cut_nat (xs := r) (l := n) (u := r.length) (by omega) (by omega)
   rw [show ((0 : Nat) : Int) = 0 from rfl, List.drop_zero] at c1
   rw [List.take_length] at c2
   rw [c1]
   simp only [Option.bind_some]
   rw [c2]
   rfl
  ·rw [show decide ((n : Int) ≤ (r.length : Int)) = false by simpa using hn, Check_f, if_neg hn]
   exact ⟨_, rfl⟩
 ·rw [h1, h2]
  exact ⟨s, rfl⟩
theorem pV_uv : ∀ (k : Nat) (m i n : Nat) (r : List Int), m < 128 ^ (k + 1) → k + i ≤ 9 → m * 2 ^ (7 * i) + n < 18446744073709551616 → (0 < i → 0 < m) → pV i n (uv m ++ r) = some (n + m * 2 ^ (7 * i), r)
 | k, m, i, n, r, h, hi, hlt, h0 => by
  by_cases hm : m < 128
  ·rw [uv_small hm, List.singleton_append, pV]
   have h9 : i < 9 ∨ (i = 9 ∧ (m : Int) < 2) := by
    rcases Nat.lt_or_ge i 9 with q | q
    ·exact .inl q
    ·have : i = 9 := by omega
     subst this
     refine .inr ⟨rfl, ?_⟩
     rcases Nat.lt_or_ge m 2 with q2 | q2
     ·omega
     ·have : 2 * 2 ^ (7 * 9) ≤ m * 2 ^ (7 * 9) := Nat.mul_le_mul_right _ q2
      omega
   rw [if_pos h9, if_pos (by omega), if_pos (by rcases Nat.eq_zero_or_pos i with q | q; exact .inl q; have := h0 q; exact .inr (by omega)), Int.toNat_natCast, Nat.mod_eq_of_lt hm]
  ·rw [uv_large hm, List.cons_append, pV]
   match k, h, hi with
   | 0, h, _ => exact absurd (by simpa using h) hm
   | k + 1, h, hi =>
    rw [if_pos (.inl (by omega)), if_neg (by omega), Int.toNat_natCast, show (m % 128 + 128) % 128 = m % 128 by omega]
    have hp : 2 ^ (7 * (i + 1)) = 128 * 2 ^ (7 * i) := by rw [show 7 * (i + 1) = 7 + 7 * i by omega, Nat.pow_add]
    have hdiv : m / 128 * (128 * 2 ^ (7 * i)) + m % 128 * 2 ^ (7 * i) = m * 2 ^ (7 * i) := by
     rw [← Nat.mul_assoc, ← Nat.add_mul]
     congr 1
     omega
    rw [pV_uv k (m / 128) (i + 1) _ r (by rw [Nat.pow_succ] at h; exact Nat.div_lt_of_lt_mul (by rw [Nat.mul_comm]; exact h)) (by omega) (by rw [hp]; omega) (fun _ => by omega), hp]
    congr 2
    omega
theorem pU_uv {m : Nat} (h : m < 18446744073709551616) (r : List Int) {most : Int} (hm : (m : Int) ≤ most) : pU most (uv m ++ r) = some ((m : Int), r) := by
 unfold pU
 rw [pV_uv 9 m 0 0 r (by omega) (by omega) (by simp; omega) (fun q => absurd q (by omega))]
 simp only [Nat.mul_zero, Nat.pow_zero, Nat.mul_one, Nat.zero_add]
 rw [if_pos hm]
theorem pI_uv {x : Int} (h : i64 x) (r : List Int) : pI (uv (zz x) ++ r) = some (x, r) := by
 unfold pI
 have := zz_lt h
 rw [pU_uv this r (by omega)]
 simp only [Int.toNat_natCast, uz_zz]
def bl (n : Nat) : Nat := if h : n = 0 then 0 else bl (n / 2) + 1
termination_by n
decreasing_by omega
theorem bl_zero : bl 0 = 0 := by rw [bl, dif_pos rfl]
theorem bl_pos {n : Nat} (h : 0 < n) : bl n = bl (n / 2) + 1 := by rw [bl, dif_neg (by omega)]
theorem bl_lt (n : Nat) : n < 2 ^ bl n := by
 induction n using Nat.strongRecOn with
 | _ n ih =>
  rcases Nat.eq_zero_or_pos n with rfl | h
  ·rw [bl_zero]; decide
  ·rw [bl_pos h, Nat.pow_succ]
   have := ih (n / 2) (by omega)
   omega
theorem bl_le : ∀ (k n : Nat), n < 2 ^ k → bl n ≤ k
 | 0, n, h => by
  have : n = 0 := by simpa using h
  rw [this, bl_zero]; exact Nat.le_refl _
 | k + 1, n, h => by
  rcases Nat.eq_zero_or_pos n with rfl | hp
  ·rw [bl_zero]; omega
  ·rw [bl_pos hp]
   have := bl_le k (n / 2) (by rw [Nat.pow_succ] at h; omega)
   omega
theorem bl_shift : ∀ (k n : Nat), 2 ^ k ≤ n → bl n = k + bl (n / 2 ^ k)
 | 0, n, _ => by simp
 | k + 1, n, h => by
  have hp : 0 < 2 ^ k := Nat.two_pow_pos k
  rw [Nat.pow_succ] at h
  rw [bl_pos (by omega), bl_shift k (n / 2) (by omega), Nat.div_div_eq_div_mul, Nat.pow_succ, Nat.mul_comm (2 ^ k) 2]
  omega
def V (w : Nat) : List Nat → Nat
 | [] => 0
 | d :: ds => d + 2 ^ w * V w ds
def Lt (w : Nat) (ds : List Nat) : Prop := ∀ d ∈ ds, d < 2 ^ w
theorem Lt.tail {w d : Nat} {ds : List Nat} (h : Lt w (d :: ds)) : d < 2 ^ w ∧ Lt w ds := ⟨h d List.mem_cons_self, fun x hx => h x (List.mem_cons_of_mem _ hx)⟩
theorem V_lt {w : Nat} : ∀ {ds : List Nat}, Lt w ds → V w ds < 2 ^ (ds.length * w)
 | [], _ => by simp [V]
 | d :: ds, h => by
  have h1 := h.tail.1
  have h2 := V_lt h.tail.2
  simp only [V, List.length_cons]
  rw [Nat.add_mul, Nat.one_mul, Nat.pow_add, Nat.mul_comm (2 ^ (ds.length * w))]
  have : 2 ^ w * V w ds + 2 ^ w ≤ 2 ^ w * 2 ^ (ds.length * w) := by
   rw [← Nat.mul_succ]; exact Nat.mul_le_mul_left _ h2
  omega
theorem V_drop {w : Nat} : ∀ {ds : List Nat}, Lt w ds → ∀ i, V w ds / 2 ^ (i * w) = V w (ds.drop i)
 | ds, _, 0 => by simp
 | [], _, i + 1 => by simp [V]
 | d :: ds, h, i + 1 => by
  rw [List.drop_succ_cons, ← V_drop h.tail.2 i, Nat.add_mul, Nat.one_mul, Nat.add_comm (i * w), Nat.pow_add, ← Nat.div_div_eq_div_mul]
  congr 1
  simp only [V]
  rw [Nat.add_mul_div_left _ _ (Nat.two_pow_pos w), Nat.div_eq_of_lt h.tail.1, Nat.zero_add]
theorem V_get {w : Nat} {ds : List Nat} (h : Lt w ds) {i d : Nat} (hd : ds[i]? = some d) : V w ds / 2 ^ (i * w) % 2 ^ w = d := by
 rw [V_drop h, List.drop_eq_getElem_cons (List.getElem?_eq_some_iff.1 hd).1, (List.getElem?_eq_some_iff.1 hd).2, V, Nat.add_mul_mod_self_left]
 exact Nat.mod_eq_of_lt (h d (List.mem_of_getElem? hd))
def by_ (m v : Nat) : List Nat := (List.range m).map fun j => v / 2 ^ (8 * j) % 256
theorem by_length (m v : Nat) : (by_ m v).length = m := by simp [by_]
theorem by_get {m v j : Nat} (h : j < m) : (by_ m v)[j]? = some (v / 2 ^ (8 * j) % 256) := by
 unfold by_
 rw [List.getElem?_map, List.getElem?_range h]; rfl
theorem by_lt (m v : Nat) : Lt 8 (by_ m v) := by
 intro d hd
 unfold by_ at hd
 obtain ⟨j, _, rfl⟩ := List.mem_map.1 hd
 exact Nat.mod_lt _ (by decide)
theorem by_ext {xs ys : List Nat} (hl : xs.length = ys.length) (h : ∀ j : Nat, j < xs.length → xs[j]? = ys[j]?) : xs = ys := by
 apply List.ext_getElem? fun j => ?_
 rcases Nat.lt_or_ge j xs.length with hj | hj
 ·exact h j hj
 ·rw [List.getElem?_eq_none hj, List.getElem?_eq_none (by omega)]
theorem V_by : ∀ (m v : Nat), v < 2 ^ (8 * m) → V 8 (by_ m v) = v
 | 0, v, h => by
  have : v = 0 := by simpa using h
  subst this; rfl
 | m + 1, v, h => by
  have e : by_ (m + 1) v = v % 256 :: by_ m (v / 256) := by
   refine by_ext (by simp [by_length]) fun j hj => ?_
   rw [by_length] at hj
   rw [by_get hj]
   cases j with
   | zero => simp
   | succ j =>
    rw [List.getElem?_cons_succ, by_get (by omega), show 8 * (j + 1) = 8 + 8 * j by omega, Nat.pow_add, Nat.div_div_eq_div_mul]
  rw [e, V, V_by m (v / 256) (by rw [show 8 * (m + 1) = 8 + 8 * m by omega, Nat.pow_add] at h; exact Nat.div_lt_of_lt_mul h)]
  exact Nat.mod_add_div v 256
def bt (v i : Nat) : Nat := v / 2 ^ i % 2
theorem bt_lt (v i : Nat) : bt v i < 2 := Nat.mod_lt _ (by decide)
theorem mod_succ (v i : Nat) : v % 2 ^ (i + 1) = v % 2 ^ i + bt v i * 2 ^ i := by
 rw [Nat.pow_succ, Nat.mod_mul, bt, Nat.mul_comm]
theorem bt_V {w : Nat} {ds : List Nat} (h : Lt w ds) {i k d : Nat} (hd : ds[i]? = some d) (hk : k < w) : bt (V w ds) (i * w + k) = bt d k := by
 unfold bt
 have hm := V_get h hd
 rw [Nat.pow_add, ← Nat.div_div_eq_div_mul]
 conv => rhs; rw [← hm]
 obtain ⟨x, hx⟩ : ∃ x, x = V w ds / 2 ^ (i * w) := ⟨_, rfl⟩
 rw [← hx]
 obtain ⟨j, rfl⟩ : ∃ j, w = k + (j + 1) := ⟨w - k - 1, by omega⟩
 rw [Nat.pow_add, Nat.mod_mul_right_div_self, Nat.pow_succ, Nat.mul_comm (2 ^ j) 2, Nat.mod_mul_right_mod]
theorem part_same (v i q w : Nat) (hw : 0 < w) (hq : q ≠ i / w) : v % 2 ^ (i + 1) / 2 ^ (q * w) % 2 ^ w = v % 2 ^ i / 2 ^ (q * w) % 2 ^ w := by
 rw [mod_succ]
 rcases Nat.lt_or_ge (i / w) q with hlt | hge
 · -- above
  have h1 : (i / w + 1) * w ≤ q * w := Nat.mul_le_mul_right _ hlt
  have h2 : i < (i / w + 1) * w := by have h := Nat.div_add_mod i w; have h' := Nat.mod_lt i hw; rw [Nat.add_mul, Nat.one_mul, Nat.mul_comm (i / w)]; omega
  have h3 : 2 ^ (i + 1) ≤ 2 ^ (q * w) := Nat.pow_le_pow_right (by decide) (by omega)
  have h4 : v % 2 ^ i < 2 ^ i := Nat.mod_lt _ (Nat.two_pow_pos i)
  have h5 := bt_lt v i
  have h6 : bt v i * 2 ^ i ≤ 1 * 2 ^ i := Nat.mul_le_mul_right _ (by omega)
  rw [Nat.pow_succ] at h3
  rw [Nat.div_eq_of_lt (by omega), Nat.div_eq_of_lt (by omega)]
 · -- below
  have hlt : q < i / w := by omega
  have h1 : (q + 1) * w ≤ i / w * w := Nat.mul_le_mul_right _ hlt
  have h2 : i / w * w ≤ i := Nat.div_mul_le_self i w
  obtain ⟨j, rfl⟩ : ∃ j, i = q * w + w + j := ⟨i - (q * w + w), by rw [Nat.add_mul] at h1; omega⟩
  have e : bt v (q * w + w + j) * 2 ^ (q * w + w + j) = 2 ^ (q * w) * (2 ^ w * (2 ^ j * bt v (q * w + w + j))) := by
   rw [Nat.pow_add, Nat.pow_add]; ac_rfl
  rw [e, Nat.add_mul_div_left _ _ (Nat.two_pow_pos _), Nat.add_mul_mod_self_left]
theorem part_new (v i w : Nat) (hw : 0 < w) : v % 2 ^ (i + 1) / 2 ^ (i / w * w) % 2 ^ w = v % 2 ^ i / 2 ^ (i / w * w) % 2 ^ w + bt v i * 2 ^ (i % w) ∧ v % 2 ^ i / 2 ^ (i / w * w) % 2 ^ w < 2 ^ (i % w) := by
 obtain ⟨q, hq⟩ : ∃ q, q = i / w * w := ⟨_, rfl⟩
 obtain ⟨k, hk⟩ : ∃ k, k = i % w := ⟨_, rfl⟩
 have hi : i = q + k := by rw [hq, hk, Nat.mul_comm]; exact (Nat.div_add_mod i w).symm
 have hkw : k < w := by rw [hk]; exact Nat.mod_lt _ hw
 rw [← hq, ← hk, mod_succ, hi]
 have hlt : v % 2 ^ (q + k) / 2 ^ q < 2 ^ k := Nat.div_lt_of_lt_mul (by rw [← Nat.pow_add]; exact Nat.mod_lt _ (Nat.two_pow_pos _))
 have hkk : 2 ^ (k + 1) ≤ 2 ^ w := Nat.pow_le_pow_right (by decide) hkw
 rw [Nat.pow_succ] at hkk
 have hb := bt_lt v (q + k)
 have hb2 : bt v (q + k) * 2 ^ k ≤ 1 * 2 ^ k := Nat.mul_le_mul_right _ (by omega)
 have e : bt v (q + k) * 2 ^ (q + k) = 2 ^ q * (bt v (q + k) * 2 ^ k) := by rw [Nat.pow_add, ← Nat.mul_assoc, ← Nat.mul_assoc, Nat.mul_comm (bt v (q + k))]
 rw [e, Nat.add_mul_div_left _ _ (Nat.two_pow_pos q), Nat.mod_eq_of_lt (show v % 2 ^ (q + k) / 2 ^ q + bt v (q + k) * 2 ^ k < 2 ^ w by omega), Nat.mod_eq_of_lt (show v % 2 ^ (q + k) / 2 ^ q < 2 ^ w by omega)]
 exact ⟨rfl, hlt⟩
def b0 (l : List Int) : List Int := (l.map fun x => uv (zz x)).flatten
def lastOf : Int → List Int → Int
 | a, [] => a
 | _, x :: l => lastOf x l
def bD : Int → List Int → List Int
 | _, [] => []
 | a, x :: l => uv (zz (IntKind.i64.wrap (x - a))) ++ bD x l
def bR : Nat → List Int → List Int
 | _, [] => []
 | k, [x] => uv (zz x) ++ uv k
 | k, x :: y :: l => if y = x then bR (k + 1) (y :: l) else uv (zz x) ++ uv k ++ bR 0 (y :: l)
def mn : Int → List Int → Int
 | m, [] => m
 | m, x :: l => mn (if x < m then x else m) l
def ds (lo : Int) (l : List Int) : List Nat := l.map fun x => (x - lo).toNat
def wdt (D : List Nat) : Nat := D.foldl (fun w d => if w < bl d then bl d else w) 0
def ofN (l : List Nat) : List Int := l.map fun (n : Nat) => (n : Int)
def pk : List Int → List Int
 | [] => []
 | x :: l => uv (zz (mn x l)) ++ [(wdt (ds (mn x l) (x :: l)) : Int)] ++ ofN (by_ (((x :: l).length * wdt (ds (mn x l) (x :: l)) + 7) / 8) (V (wdt (ds (mn x l) (x :: l))) (ds (mn x l) (x :: l))))
def body : Nat → List Int → List Int
 | 0, l => b0 l
 | 1, l => bD 0 l
 | 2, l => bR 0 l
 | _, l => pk l
def asL (w : Nat) (l : List Int) : List Int := (w : Int) :: (uv l.length ++ body w l)
def I64 (l : List Int) : Prop := ∀ x ∈ l, i64 x
theorem I64.get {l : List Int} (h : I64 l) {i : Nat} {x : Int} (hx : l[i]? = some x) : i64 x := h x (List.mem_of_getElem? hx)
theorem len_b0 : ∀ {l : List Int}, I64 l → (b0 l).length ≤ 10 * l.length
 | [], _ => by simp [b0]
 | x :: l, h => by
  have h1 := uv_length64 (zz_lt (h x List.mem_cons_self))
  have h2 := len_b0 (l := l) fun y hy => h y (List.mem_cons_of_mem _ hy)
  simp only [b0, List.map_cons, List.flatten_cons, List.length_append, List.length_cons] at h2 ⊢
  omega
theorem len_bD : ∀ (l : List Int) (a : Int), (bD a l).length ≤ 10 * l.length
 | [], _ => by simp [bD]
 | x :: l, a => by
  have h1 := uv_length64 (zz_lt (i64_wrap (x - a)))
  have h2 := len_bD l x
  simp only [bD, List.length_append, List.length_cons]
  omega
theorem len_bR : ∀ (l : List Int) (k : Nat), I64 l → k + l.length < 18446744073709551616 → (bR k l).length ≤ 20 * l.length
 | [], _, _, _ => by simp [bR]
 | [x], k, h, hk => by
  have h1 := uv_length64 (zz_lt (h x List.mem_cons_self))
  have h2 := uv_length64 (n := k) (by simp at hk; omega)
  simp only [bR, List.length_append, List.length_cons, List.length_nil]
  omega
 | x :: y :: l, k, h, hk => by
  have h1 := uv_length64 (zz_lt (h x List.mem_cons_self))
  simp only [List.length_cons] at hk
  have h2 := uv_length64 (n := k) (by omega)
  have h' : I64 (y :: l) := fun z hz => h z (List.mem_cons_of_mem _ hz)
  unfold bR
  split
  ·have := len_bR (y :: l) (k + 1) h' (by simp only [List.length_cons]; omega)
   simp only [List.length_cons] at this ⊢
   omega
  ·have := len_bR (y :: l) 0 h' (by simp only [List.length_cons]; omega)
   simp only [List.length_append, List.length_cons] at this ⊢
   omega
theorem b0_snoc (l : List Int) (x : Int) : b0 (l ++ [x]) = b0 l ++ uv (zz x) := by simp [b0]
theorem bD_snoc : ∀ (l : List Int) (a x : Int), bD a (l ++ [x]) = bD a l ++ uv (zz (IntKind.i64.wrap (x - lastOf a l)))
 | [], a, x => by simp [bD, lastOf]
 | y :: l, a, x => by simp [bD, lastOf, bD_snoc l y x]
theorem lastOf_snoc : ∀ (l : List Int) (a x : Int), lastOf a (l ++ [x]) = x
 | [], a, x => rfl
 | y :: l, a, x => lastOf_snoc l y x
theorem take_snoc {l : List Int} {k : Nat} {x : Int} (h : l[k]? = some x) : l.take (k + 1) = l.take k ++ [x] := by rw [List.take_add_one, h]; rfl
theorem I64.take {l : List Int} (h : I64 l) (k : Nat) : I64 (l.take k) := fun x hx => h x (List.mem_of_mem_take hx)
section
variable {l pre : List Int} (hl : l.length ≤ 4096) (hi : I64 l) (hp : pre.length ≤ 20)
include hl hi hp
theorem col0 : loop (fun s : List Int × Int => column_As_l1 l s.1 s.2) (pre, 0) = some (pre ++ b0 l) := by
 have := loop_to (b := fun s : List Int × Int => column_As_l1 l s.1 s.2) (fun k => (pre ++ b0 (l.take k), (k : Int))) (t := pre ++ b0 l) l.length (fun k hk => by
  have hx := List.getElem?_eq_getElem hk
  have hlen := len_b0 (hi.take k)
  rw [List.length_take] at hlen
  show column_As_l1 l (pre ++ b0 (l.take k)) (k : Int) = _
  unfold column_As_l1
  rw [if_pos (by simp only [decide_eq_true_eq]; omega), at_int rfl hx]
  simp only [Option.bind_some]
  rw [Int_app (hi.get hx) _ (by simp only [List.length_append]; omega)]
  simp only [Option.bind_some, lt_]
  rw [w64 (by omega) (by omega), take_snoc hx, b0_snoc, List.append_assoc]
  rfl) (by
  show column_As_l1 l (pre ++ b0 (l.take l.length)) (l.length : Int) = _
  unfold column_As_l1
  rw [if_neg (by simp), List.take_length])
 simpa [b0] using this
omit hi in
theorem col1 : loop (fun s : List Int × Int × Int => column_As_l2 l s.1 s.2.1 s.2.2) (pre, 0, 0) = some (pre ++ bD 0 l) := by
 have := loop_to (b := fun s : List Int × Int × Int => column_As_l2 l s.1 s.2.1 s.2.2) (fun k => (pre ++ bD 0 (l.take k), lastOf 0 (l.take k), (k : Int))) (t := pre ++ bD 0 l) l.length (fun k hk => by
  have hx := List.getElem?_eq_getElem hk
  have hlen := len_bD (l.take k) 0
  rw [List.length_take] at hlen
  show column_As_l2 l (pre ++ bD 0 (l.take k)) (lastOf 0 (l.take k)) (k : Int) = _
  unfold column_As_l2
  rw [if_pos (by simp only [decide_eq_true_eq]; omega), at_int rfl hx]
  simp only [Option.bind_some, lt_]
  rw [Int_app (i64_wrap _) _ (by simp only [List.length_append]; omega)]
  simp only [Option.bind_some]
  rw [w64 (n := (k : Int) + 1) (by omega) (by omega), take_snoc hx, bD_snoc, lastOf_snoc, List.append_assoc]
  rfl) (by
  show column_As_l2 l (pre ++ bD 0 (l.take l.length)) (lastOf 0 (l.take l.length)) (l.length : Int) = _
  unfold column_As_l2
  rw [if_neg (by simp), List.take_length])
 simpa [bD, lastOf] using this
end
theorem run_split (x : Int) : ∀ rest : List Int, ∃ (m : Nat) (tl : List Int), rest = List.replicate m x ++ tl ∧ ∀ y, tl[0]? = some y → y ≠ x
 | [] => ⟨0, [], rfl, by simp⟩
 | y :: rest => by
  by_cases h : y = x
  ·obtain ⟨m, tl, h1, h2⟩ := run_split x rest
   exact ⟨m + 1, tl, by rw [h, h1]; rfl, h2⟩
  ·exact ⟨0, y :: rest, rfl, fun z hz => by cases hz; exact h⟩
theorem bR_run (x : Int) (tl : List Int) (h : ∀ y, tl[0]? = some y → y ≠ x) : ∀ (m k : Nat), bR k (x :: (List.replicate m x ++ tl)) = uv (zz x) ++ uv (k + m) ++ bR 0 tl
 | 0, k => by
  cases tl with
  | nil => simp [bR]
  | cons y tl =>
   have := h y rfl
   simp only [List.replicate_zero, List.nil_append, bR, if_neg this, Nat.add_zero]
 | m + 1, k => by
  rw [List.replicate_succ, List.cons_append, bR, if_pos rfl, bR_run x tl h m (k + 1), show k + 1 + m = k + (m + 1) by omega]
section
variable {l pre : List Int} (hl : l.length ≤ 4096) (hi : I64 l) (hp : pre.length ≤ 20)
include hl hi hp
theorem col2 : loop (fun s : List Int × Int => column_As_l3 l s.1 s.2) (pre, 0) = some (pre ++ bR 0 l) := by
 obtain ⟨t, ht, rfl⟩ := loop_good (b := fun s : List Int × Int => column_As_l3 l s.1 s.2) (s := (pre, 0))
  (fun s => ∃ i : Nat, s.2 = i ∧ i ≤ l.length ∧ s.1.length ≤ 20 + 20 * i ∧ s.1 ++ bR 0 (l.drop i) = pre ++ bR 0 l)
  (fun s => ((l.length : Int) - s.2).toNat) (fun t => t = pre ++ bR 0 l) ⟨0, rfl, by omega, by simpa using hp, by simp⟩ (by
   rintro ⟨acc, q⟩ ⟨i, hq, hil, hacc, hinv⟩
   simp only at hq hacc hinv
   subst hq
   show (∃ s', column_As_l3 l acc (i : Int) = some (.inl s') ∧ _) ∨ ∃ t, column_As_l3 l acc (i : Int) = some (.inr t) ∧ _
   unfold column_As_l3
   by_cases hlt : i < l.length
   ·rw [if_pos (by simp only [decide_eq_true_eq]; omega)]
    have hx := List.getElem?_eq_getElem hlt
    obtain ⟨x, hxe⟩ : ∃ x, x = l[i] := ⟨_, rfl⟩
    rw [← hxe] at hx
    have hd : l.drop i = x :: l.drop (i + 1) := by rw [List.drop_eq_getElem_cons hlt, ← hxe]
    obtain ⟨m, tl, hm, htl⟩ := run_split x (l.drop (i + 1))
    have hlen : l.length = i + 1 + m + tl.length := by
     have := congrArg List.length hm
     simp only [List.length_drop, List.length_append, List.length_replicate] at this
     omega
    have hget : ∀ k, k < m → l[i + 1 + k]? = some x := by
     intro k hk
     have : (l.drop (i + 1))[k]? = some x := by rw [hm, List.getElem?_append_left (by simpa using hk)]; simp [hk]
     rwa [List.getElem?_drop] at this
    have hdr : l.drop (i + 1 + m) = tl := by
     rw [← List.drop_drop, hm]
     exact List.drop_left' (by simp)
    -- how many are alike
    have hin := loop_to (b := fun s : Int => column_As_l4 l (i : Int) s) (fun k => ((k + 1 : Nat) : Int)) (t := ((m + 1 : Nat) : Int)) m (fun k hk => by
     show column_As_l4 l (i : Int) ((k + 1 : Nat) : Int) = _
     unfold column_As_l4
     rw [lt_, w64 (by omega) (by omega), if_pos (by simp only [decide_eq_true_eq]; omega), at_int (n := i + 1 + k) (by omega) (hget k hk), at_int rfl hx]
     simp only [Option.bind_some]
     unfold column_As_j1
     rw [if_pos (by simp), lt_, w64 (by omega) (by omega)]
     rfl) (by
     show column_As_l4 l (i : Int) ((m + 1 : Nat) : Int) = _
     unfold column_As_l4
     rw [lt_, w64 (by omega) (by omega)]
     by_cases htz : tl.length = 0
     ·rw [if_neg (by simp only [decide_eq_true_eq]; omega)]
      unfold column_As_j1
      rw [if_neg (by simp)]
     ·obtain ⟨y, hy⟩ : ∃ y, tl[0]? = some y := ⟨_, List.getElem?_eq_getElem (by omega)⟩
      have hy' : l[i + 1 + m]? = some y := by rw [← hdr, List.getElem?_drop] at hy; exact hy
      rw [if_pos (by simp only [decide_eq_true_eq]; omega), at_int (n := i + 1 + m) (by omega) hy', at_int rfl hx]
      simp only [Option.bind_some]
      unfold column_As_j1
      rw [if_neg (by simpa using htl y hy)])
    rw [show (1 : Int) = ((0 + 1 : Nat) : Int) from rfl, hin]
    simp only [Option.bind_some]
    unfold column_As_x4_7 column_As_b5
    have hz := uv_length64 (zz_lt (hi.get hx))
    have hum := uv_length64 (n := m) (by omega)
    rw [at_int rfl hx]
    simp only [Option.bind_some]
    rw [Int_app (hi.get hx) _ (by omega)]
    simp only [Option.bind_some, lt_]
    rw [w64 (n := ((m + 1 : Nat) : Int) - 1) (by omega) (by omega), show ((m + 1 : Nat) : Int) - 1 = (m : Int) by omega, u64w (by omega) (by omega), Uint_app m _ (by omega) (by simp only [List.length_append]; omega)]
    simp only [Option.bind_some]
    rw [w64 (by omega) (by omega)]
    refine .inl ⟨_, rfl, ⟨i + 1 + m, ?_, by omega, ?_, ?_⟩, ?_⟩
    ·simp only; omega
    ·simp only [List.length_append]; omega
    ·rw [hdr, ← hinv, hd, hm, bR_run x tl htl m 0]
     simp
    ·simp only; omega
   ·rw [if_neg (by simp only [decide_eq_true_eq]; omega)]
    refine .inr ⟨_, rfl, ?_⟩
    rw [← hinv, show i = l.length by omega, List.drop_length]
    simp [bR])
 exact ht
end
theorem bl_eq {k m : Nat} (h1 : 2 ^ k ≤ m) (h2 : m < 2 ^ (k + 1)) : bl m = k + 1 := by
 have e : m / 2 ^ k = 1 := by
  rw [Nat.pow_succ] at h2
  have := (Nat.le_div_iff_mul_le (Nat.two_pow_pos k)).2 (show 1 * 2 ^ k ≤ m by omega)
  have := (Nat.div_lt_iff_lt_mul (Nat.two_pow_pos k)).2 (show m < 2 * 2 ^ k by omega)
  omega
 rw [bl_shift k m h1, e, bl_pos (by decide), show 1 / 2 = 0 from rfl, bl_zero]
def steps (m : Nat) : Nat := if m < 1 then 0 else if m < 2 then 1 else if m < 4 then 2 else if m < 8 then 3 else if m < 16 then 4 else if m < 32 then 5 else if m < 64 then 6 else if m < 128 then 7 else 8
theorem bl_steps {m : Nat} (h : m < 256) : bl m = steps m := by
 unfold steps
 repeat' split
 ·rw [show m = 0 by omega, bl_zero]
 ·exact bl_eq (k := 0) (by omega) (by omega)
 ·exact bl_eq (k := 1) (by omega) (by omega)
 ·exact bl_eq (k := 2) (by omega) (by omega)
 ·exact bl_eq (k := 3) (by omega) (by omega)
 ·exact bl_eq (k := 4) (by omega) (by omega)
 ·exact bl_eq (k := 5) (by omega) (by omega)
 ·exact bl_eq (k := 6) (by omega) (by omega)
 ·exact bl_eq (k := 7) (by omega) (by omega)
set_option maxRecDepth 100000 in
theorem j3_eq {m : Nat} (h : m < 256) (a : Int) (ha : 0 ≤ a) (ha' : a ≤ 64) : bits_Len64_j3 (m : Int) a = some (a + (bl m : Int)) := by
 unfold bits_Len64_j3
 rw [lt_, u8w (by omega) (by omega), at_nat]
 have key : ∀ tb : List UInt8, (∀ i : Fin 256, (tb[i.val]?).map (fun b : UInt8 => b.toNat) = some (steps i.val)) → ((tb[m]?).bind fun x133 => (ltt (IntKind.i64.wrap (x133.toNat : Int)) fun x135 => (ltt (IntKind.i64.wrap (a + x135)) fun x137 => (some x137)))) = some (a + (bl m : Int)) := by
  intro tb ht
  have := ht ⟨m, h⟩
  simp only [Option.map_eq_some_iff] at this
  obtain ⟨b, hb, hs⟩ := this
  rw [hb]
  have : steps m ≤ 8 := by unfold steps; (repeat' split) <;> omega
  simp only [Option.bind_some, lt_]
  rw [hs, w64 (n := ((steps m : Nat) : Int)) (by omega) (by omega), w64 (by omega) (by omega), bl_steps h]
 exact key _ (by decide +kernel)
theorem sh {n k : Nat} (hk : k ≤ 64) : ishr .u64 (n : Int) (k : Int) = ((n / 2 ^ k : Nat) : Int) := ishr_nat (k := .u64) n k hk
theorem Len_eq {n : Nat} (h : n < 18446744073709551616) : bits_Len64 (n : Int) = some (bl n : Int) := by
 have j2 : ∀ (m a : Nat), m < 65536 → a ≤ 56 → bits_Len64_j2 (m : Int) (a : Int) = some ((a : Int) + (bl m : Int)) := by
  intro m a hm ha
  unfold bits_Len64_j2
  by_cases hc : 256 ≤ m
  ·rw [if_pos (by simp only [decide_eq_true_eq]; omega), lt_, lt_]
   have e := sh (n := m) (k := 8) (by omega)
   rw [show ((8 : Nat) : Int) = 8 from rfl] at e
   rw [e, w64 (by omega) (by omega), j3_eq (by omega) _ (by omega) (by omega), bl_shift 8 m (by omega)]
   congr 1
   omega
  ·rw [if_neg (by simp only [decide_eq_true_eq]; omega), j3_eq (by omega) _ (by omega) (by omega)]
 have j1 : ∀ (m a : Nat), m < 4294967296 → a ≤ 32 → bits_Len64_j1 (m : Int) (a : Int) = some ((a : Int) + (bl m : Int)) := by
  intro m a hm ha
  unfold bits_Len64_j1
  by_cases hc : 65536 ≤ m
  ·rw [if_pos (by simp only [decide_eq_true_eq]; omega), lt_, lt_]
   have e := sh (n := m) (k := 16) (by omega)
   rw [show ((16 : Nat) : Int) = 16 from rfl] at e
   rw [e, w64 (by omega) (by omega), show (a : Int) + 16 = ((a + 16 : Nat) : Int) by omega, j2 _ _ (by omega) (by omega), bl_shift 16 m (by omega)]
   congr 1
   omega
  ·rw [if_neg (by simp only [decide_eq_true_eq]; omega), j2 _ _ (by omega) (by omega)]
 unfold bits_Len64
 by_cases hc : 4294967296 ≤ n
 ·rw [if_pos (by simp only [decide_eq_true_eq]; omega), lt_]
  have e := sh (n := n) (k := 32) (by omega)
  rw [show ((32 : Nat) : Int) = 32 from rfl] at e
  rw [e, show (32 : Int) = ((32 : Nat) : Int) from rfl, j1 _ _ (by omega) (by omega), bl_shift 32 n (by omega)]
  congr 1
 ·rw [if_neg (by simp only [decide_eq_true_eq]; omega), show (0 : Int) = ((0 : Nat) : Int) from rfl, j1 _ _ (by omega) (by omega)]
  simp
theorem mn_snoc : ∀ (l : List Int) (m x : Int), mn m (l ++ [x]) = if x < mn m l then x else mn m l
 | [], m, x => rfl
 | y :: l, m, x => mn_snoc l _ x
theorem mn_le : ∀ (l : List Int) (m : Int), mn m l ≤ m ∧ ∀ x ∈ l, mn m l ≤ x
 | [], m => ⟨Int.le_refl _, fun x h => by cases h⟩
 | y :: l, m => by
  obtain ⟨h1, h2⟩ := mn_le l (if y < m then y else m)
  have h3 : (if y < m then y else m) ≤ m ∧ (if y < m then y else m) ≤ y := by split <;> omega
  refine ⟨Int.le_trans h1 h3.1, fun x hx => ?_⟩
  rcases List.mem_cons.1 hx with rfl | hx
  ·exact Int.le_trans h1 h3.2
  ·exact h2 x hx
theorem mn_mem : ∀ (l : List Int) (m : Int), mn m l = m ∨ mn m l ∈ l
 | [], m => .inl rfl
 | y :: l, m => by
  rcases mn_mem l (if y < m then y else m) with h | h
  ·simp only [mn]
   rw [h]
   split
   ·exact .inr List.mem_cons_self
   ·exact .inl rfl
  ·exact .inr (List.mem_cons_of_mem _ h)
theorem mn_i64 {x : Int} {l : List Int} (h : I64 (x :: l)) : i64 (mn x l) := by
 rcases mn_mem l x with e | e
 ·rw [e]; exact h x List.mem_cons_self
 ·exact h _ (List.mem_cons_of_mem _ e)
theorem d_eq {x lo : Int} (hx : i64 x) (hlo : i64 lo) (h : lo ≤ x) : IntKind.u64.wrap (IntKind.i64.wrap (x - lo)) = (((x - lo).toNat : Nat) : Int) ∧ (x - lo).toNat < 18446744073709551616 := by
 unfold i64 at hx hlo
 refine ⟨?_, by omega⟩
 rw [IntKind.wrap_u64, IntWalk.i64_left]
 unfold wrap64
 omega
theorem wdt_snoc (D : List Nat) (d : Nat) : wdt (D ++ [d]) = if wdt D < bl d then bl d else wdt D := by
 unfold wdt; rw [List.foldl_append]; rfl
theorem wdt_ge : ∀ (k : Nat) (D : List Nat), D.length = k → ∀ d ∈ D, bl d ≤ wdt D
 | 0, D, hk, d, hd => by rw [List.eq_nil_of_length_eq_zero hk] at hd; cases hd
 | k + 1, D, hk, d, hd => by
  obtain ⟨c, x, rfl⟩ : ∃ c x, D = c ++ [x] := ⟨D.dropLast, D.getLast (by intro e; rw [e] at hk; cases hk), (List.dropLast_concat_getLast _).symm⟩
  rw [wdt_snoc]
  rcases List.mem_append.1 hd with h | h
  ·have := wdt_ge k c (by simpa using hk) d h
   split <;> omega
  ·rw [List.mem_singleton.1 h]
   split <;> omega
theorem wdt_le (b : Nat) : ∀ (k : Nat) (D : List Nat), D.length = k → (∀ d ∈ D, bl d ≤ b) → wdt D ≤ b
 | 0, D, hk, _ => by rw [List.eq_nil_of_length_eq_zero hk]; simp [wdt]
 | k + 1, D, hk, h => by
  obtain ⟨c, x, rfl⟩ : ∃ c x, D = c ++ [x] := ⟨D.dropLast, D.getLast (by intro e; rw [e] at hk; cases hk), (List.dropLast_concat_getLast _).symm⟩
  rw [wdt_snoc]
  have h1 := wdt_le b k c (by simpa using hk) fun d hd => h d (List.mem_append.2 (.inl hd))
  have h2 := h x (List.mem_append.2 (.inr (List.mem_singleton.2 rfl)))
  split <;> omega
theorem Lt_wdt (D : List Nat) : Lt (wdt D) D := fun d hd => Nat.lt_of_lt_of_le (bl_lt d) (Nat.pow_le_pow_right (by decide) (wdt_ge _ D rfl d hd))
theorem ds_get {lo x : Int} {l : List Int} {i : Nat} (h : l[i]? = some x) : (ds lo l)[i]? = some (x - lo).toNat := by simp [ds, h]
theorem ds_length (lo : Int) (l : List Int) : (ds lo l).length = l.length := by simp [ds]
theorem by_step {m v at' : Nat} (h : at' / 8 < m) : (ofN (by_ m (v % 2 ^ at'))).set (at' / 8) ((v % 2 ^ at' / 2 ^ (8 * (at' / 8)) % 256 + bt v at' * 2 ^ (at' % 8) : Nat) : Int) = ofN (by_ m (v % 2 ^ (at' + 1))) := by
 unfold ofN
 rw [← List.map_set]
 congr 1
 refine by_ext (by simp [by_length]) fun j hj => ?_
 rw [List.length_set, by_length] at hj
 rw [by_get hj]
 by_cases e : at' / 8 = j
 ·subst e
  have := (part_new v at' 8 (by decide)).1
  rw [Nat.mul_comm (at' / 8) 8, show 2 ^ 8 = 256 from rfl] at this
  rw [List.getElem?_set_self (by rw [by_length]; exact hj), this]
 ·have := part_same v at' j 8 (by decide) (Ne.symm e)
  rw [Nat.mul_comm j 8, show 2 ^ 8 = 256 from rfl] at this
  rw [List.getElem?_set_ne e, by_get hj, this]
theorem ofN_get {D : List Nat} {j d : Nat} (h : D[j]? = some d) : (ofN D)[j]? = some (d : Int) := by simp [ofN, h]
theorem ofN_length (D : List Nat) : (ofN D).length = D.length := by simp [ofN]
section
variable {l : List Int} {lo : Int} {w : Nat} (hl : l.length ≤ 4096) (hi : I64 l) (hlo : i64 lo) (hle : ∀ x ∈ l, lo ≤ x) (hw : w ≤ 64) (hL : Lt w (ds lo l))
include hl hi hlo hle hw hL
omit hl in
theorem bit_eq {i : Nat} {x : Int} (hx : l[i]? = some x) {k : Nat} (hk : k < w) :
  ishr .u64 (IntKind.u64.wrap (IntKind.i64.wrap (x - lo))) (k : Int) = (((x - lo).toNat / 2 ^ k : Nat) : Int) ∧ bt (V w (ds lo l)) (i * w + k) = (x - lo).toNat / 2 ^ k % 2 ∧ (x - lo).toNat / 2 ^ k < 18446744073709551616 := by
 obtain ⟨e, e'⟩ := d_eq (hi.get hx) hlo (hle x (List.mem_of_getElem? hx))
 rw [e]
 exact ⟨sh (by omega), bt_V hL (ds_get hx) hk, Nat.lt_of_le_of_lt (Nat.div_le_self _ _) e'⟩
omit hi hlo hle hL in
theorem at_lt {i k : Nat} (hil : i < l.length) (hk : k < w) : i * w + k < l.length * w ∧ l.length * w ≤ 262144 ∧ (i * w + k) / 8 < (l.length * w + 7) / 8 := by
 have h1 : (i + 1) * w ≤ l.length * w := Nat.mul_le_mul_right _ hil
 have h2 : l.length * w ≤ 4096 * 64 := Nat.mul_le_mul hl hw
 rw [Nat.add_mul] at h1
 refine ⟨by omega, by omega, by omega⟩
theorem col_bits {i : Nat} {x : Int} (hx : l[i]? = some x) :
  loop (fun s : Int × List Int × Int => column_pack_l2 lo (w : Int) x s.1 s.2.1 s.2.2) (((i * w : Nat) : Int), ofN (by_ ((l.length * w + 7) / 8) (V w (ds lo l) % 2 ^ (i * w))), 0)
   = some ((((i + 1) * w : Nat) : Int), ofN (by_ ((l.length * w + 7) / 8) (V w (ds lo l) % 2 ^ ((i + 1) * w)))) := by
 have hil := (List.getElem?_eq_some_iff.1 hx).1
 have := loop_to (b := fun s : Int × List Int × Int => column_pack_l2 lo (w : Int) x s.1 s.2.1 s.2.2) (fun k => (((i * w + k : Nat) : Int), ofN (by_ ((l.length * w + 7) / 8) (V w (ds lo l) % 2 ^ (i * w + k))), (k : Int))) (t := ((((i + 1) * w : Nat) : Int), ofN (by_ ((l.length * w + 7) / 8) (V w (ds lo l) % 2 ^ ((i + 1) * w))))) w (fun k hk => by
  obtain ⟨h1, h2, h3⟩ := at_lt hl hw hil hk
  obtain ⟨e1, e2, e3⟩ := bit_eq hi hlo hle hw hL hx hk
  show column_pack_l2 lo (w : Int) x ((i * w + k : Nat) : Int) (ofN (by_ ((l.length * w + 7) / 8) (V w (ds lo l) % 2 ^ (i * w + k)))) (k : Int) = _
  have hstep := by_step (v := V w (ds lo l)) h3
  have hcur : V w (ds lo l) % 2 ^ (i * w + k) / 2 ^ (8 * ((i * w + k) / 8)) % 256 < 2 ^ ((i * w + k) % 8) := by
   have := (part_new (V w (ds lo l)) (i * w + k) 8 (by decide)).2
   rwa [Nat.mul_comm ((i * w + k) / 8) 8] at this
  rw [show i * w + (k + 1) = i * w + k + 1 by omega]
  generalize i * w + k = a at h1 h3 e2 hstep hcur ⊢
  have hget := ofN_get (by_get (v := V w (ds lo l) % 2 ^ a) h3)
  unfold column_pack_l2
  rw [if_pos (by simp only [decide_eq_true_eq]; omega), lt_, show ((a : Nat) : Int).tdiv 8 = ((a / 8 : Nat) : Int) from rfl, w64 (n := ((a / 8 : Nat) : Int)) (by omega) (by omega), at_int rfl hget]
  simp only [Option.bind_some, lt_]
  rw [chk_pos (by omega), e1, show ((a : Nat) : Int).tmod 8 = ((a % 8 : Nat) : Int) from rfl, chk_pos (by omega)]
  have hand : iand .u64 (((x - lo).toNat / 2 ^ k : Nat) : Int) 1 = ((bt (V w (ds lo l)) a : Nat) : Int) := by
   have := iand_u64 (a := (x - lo).toNat / 2 ^ k) (b := 1) e3 (by omega)
   rw [show ((1 : Nat) : Int) = 1 from rfl] at this
   rw [this, and_1, e2]
  have hb := bt_lt (V w (ds lo l)) a
  have hp8 : 2 ^ (a % 8) ≤ 2 ^ 7 := Nat.pow_le_pow_right (by decide) (by omega)
  have hbp : bt (V w (ds lo l)) a * 2 ^ (a % 8) ≤ 1 * 2 ^ (a % 8) := Nat.mul_le_mul_right _ (by omega)
  have hm : bt (V w (ds lo l)) a * 2 ^ (a % 8) % 256 = bt (V w (ds lo l)) a * 2 ^ (a % 8) := Nat.mod_eq_of_lt (by omega)
  rw [hand, u8w (by omega) (by omega), ishl_u8 _ _ (by omega), hm, ior_u8 (by omega) (by omega), or_top hcur, w64 (by omega) (by omega), w64 (by omega) (by omega), Int.toNat_natCast, hstep]
  rfl) (by
  show column_pack_l2 lo (w : Int) x ((i * w + w : Nat) : Int) (ofN (by_ ((l.length * w + 7) / 8) (V w (ds lo l) % 2 ^ (i * w + w)))) (w : Int) = _
  unfold column_pack_l2
  rw [if_neg (by simp), show i * w + w = (i + 1) * w by rw [Nat.add_mul, Nat.one_mul]])
 simpa using this
theorem col_all : loop (fun s : Int × List Int × Int => column_pack_l1 l lo (w : Int) s.1 s.2.1 s.2.2) (0, List.replicate ((l.length * w + 7) / 8) 0, 0) = some (ofN (by_ ((l.length * w + 7) / 8) (V w (ds lo l)))) := by
 have := loop_to (b := fun s : Int × List Int × Int => column_pack_l1 l lo (w : Int) s.1 s.2.1 s.2.2) (fun i => (((i * w : Nat) : Int), ofN (by_ ((l.length * w + 7) / 8) (V w (ds lo l) % 2 ^ (i * w))), (i : Int))) (t := ofN (by_ ((l.length * w + 7) / 8) (V w (ds lo l)))) l.length (fun i hil => by
  have hx := List.getElem?_eq_getElem hil
  show column_pack_l1 l lo (w : Int) ((i * w : Nat) : Int) (ofN (by_ ((l.length * w + 7) / 8) (V w (ds lo l) % 2 ^ (i * w)))) (i : Int) = _
  unfold column_pack_l1
  rw [if_pos (by simp only [decide_eq_true_eq]; omega), at_int rfl hx]
  simp only [Option.bind_some]
  rw [col_bits hl hi hlo hle hw hL hx]
  simp only [Option.bind_some]
  unfold column_pack_x2_4 column_pack_b3
  rw [lt_, w64 (by omega) (by omega)]
  rfl) (by
  show column_pack_l1 l lo (w : Int) ((l.length * w : Nat) : Int) (ofN (by_ ((l.length * w + 7) / 8) (V w (ds lo l) % 2 ^ (l.length * w)))) (l.length : Int) = _
  unfold column_pack_l1
  have hv := V_lt hL
  rw [ds_length] at hv
  rw [if_neg (by simp), Nat.mod_eq_of_lt hv])
 have e0 : ofN (by_ ((l.length * w + 7) / 8) (V w (ds lo l) % 2 ^ (0 * w))) = List.replicate ((l.length * w + 7) / 8) 0 := by
  rw [Nat.zero_mul, Nat.pow_zero, Nat.mod_one]
  unfold ofN by_
  rw [List.map_map, List.eq_replicate_iff]
  refine ⟨by simp, fun b hb => ?_⟩
  obtain ⟨j, _, rfl⟩ := List.mem_map.1 hb
  simp
 rw [e0] at this
 simpa using this
end
end Go.Proofs.YteodeedejjcmgaaDoor.P
