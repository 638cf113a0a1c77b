/- Texts of the claim, joined: what it uses of Mso, Dss, Mss, Drs, Mrs, Drn, Mrn, Dsh, Msh. -/
import Derived.Test.YteodeedejjcmgaaDoorZf
namespace Go.Proofs.YteodeedejjcmgaaDoor.M
open Go Go.RowKit Go.Proofs.YteodeedejjcmgaaDoor.E
set_option linter.unusedVariables false
set_option maxRecDepth 100000
set_option maxHeartbeats 4000000
set_option linter.unusedSimpArgs false
theorem F_segment_Segment_foot {r : World} {L : List HP} {w : World} {Z : Nat → Prop} {wz : World} (a0 : S83) (a1 : S106) (g0 : Nat) (g1 : Nat) {y : ((S83 × S106) ⊕ (S83 × S106))} (G : segment_Segment_foot a0 a1 = some y) (qz : Nat) (hZ : L[qz]? = some (zone Z wz)) (X : SH r (obj83 Z wz g0 a0 :: obj106 Z wz g1 a1 :: L) w) :
  RetS Tryd.prog 40 #[.pointer (some ⟨g0, 0, none⟩), (pP g1)] w badC y (fun y v w' => v = .tuple #[] ∧ SH r (obj83 Z wz g0 y.1 :: obj106 Z wz g1 y.2 :: L) w') (fun y w' => SH r (obj83 Z wz g0 y.1 :: obj106 Z wz g1 y.2 :: L) w') := by
 refine enterS Tryd.func40 rfl Tryd.ntmps40 [(0, (pP g0)), (1, (pP g1))] rfl (by simp) ?_
 intro U J Qf hQ hQn hQp
 unfold segment_Segment_foot at G
 obtain ⟨A100, n101, c102, A103, n104, c105, X⟩ := obj83_open X
 obtain ⟨h106, X⟩ := (X.pk 2).unpure
 replace X := X.pk 2
 obtain ⟨A107, n108, c109, X⟩ := obj106_open X
 obtain ⟨h110, X⟩ := (X.pk 1).unpure
 refine ws fun K111 hK111 => ?_
 refine x_m J rfl fun U J => ?_
 refine x_m J rfl fun U J => ?_
 replace X := SH.pure_ h110 X
 replace X := X.pk 1
 replace X := obj106_mk (x := a1) X
 obtain ⟨y112, h113, G⟩ := bnd G
 rcases y112 with y112 | y112
 rotate_left
 ·replace G := sum_r G
  refine x_callp' (vs := #[.pointer (some ⟨g1, 0, none⟩), .int .u64 8]) en58 J (RetS.rf (F_column_Reader_Uint (L := blk g0 83 [.slice A100 n101 c102, .int .i64 a0.f1, .slice A103 n104 c105] :: own k41 41 A103 n104 c105 a0.f2 :: L) a1 8 g1 h113 (qz + 2) hZ X)) (fun w hR => ?_) rfl
  replace X := hR
  obtain ⟨A114, n115, c116, X⟩ := obj106_open X
  obtain ⟨h117, X⟩ := (X.pk 1).unpure
  replace X := SH.pure_ h106 X
  replace X := X.pk 3 |>.pk 3
  replace X := obj83_mk (x := a0) X
  replace X := SH.pure_ h117 X
  replace X := X.pk 2
  replace X := obj106_mk (x := y112) X
  replace X := X.pk 1
  cases G
  exact hQp _ rfl _ _ J.defers X
 replace G := sum_l G
 refine x_callw' (vs := #[.pointer (some ⟨g1, 0, none⟩), .int .u64 8]) en58 J (RetS.lf (F_column_Reader_Uint (L := blk g0 83 [.slice A100 n101 c102, .int .i64 a0.f1, .slice A103 n104 c105] :: own k41 41 A103 n104 c105 a0.f2 :: L) a1 8 g1 h113 (qz + 2) hZ X)) (fun v U w hR J => ?_) rfl
 obtain ⟨rfl, X⟩ := hR
 obtain ⟨A118, n119, c120, X⟩ := obj106_open X
 obtain ⟨h121, X⟩ := (X.pk 1).unpure
 obtain ⟨x122, h123, G⟩ := ltt_ G
 refine x_v (v := .int .i64 x122) J (rv_i h123 (r_convI uu31 uu3 rfl (J.ev rfl))) rfl fun U J => ?_
 refine x_v J (r_nilCheck rfl (J.ev rfl)) rfl fun U J => ?_
 refine x_fab' fa83_1 J (fun U J => ?_) rfl
 refine x_stb' 1 sz3 J X rfl (fun  U w X J => ?_) rfl
 refine wn (hK111 _ _ ?_)
 refine ws fun K124 hK124 => ?_
 refine x_m J rfl fun U J => ?_
 replace X := SH.pure_ h121 X
 replace X := X.pk 2
 replace X := obj106_mk (x := y112.2) X
 obtain ⟨y125, h126, G⟩ := bnd G
 rcases y125 with y125 | y125
 rotate_left
 ·replace G := sum_r G
  refine x_callp' (vs := #[.pointer (some ⟨g1, 0, none⟩), .int .u64 1024]) en58 J (RetS.rf (F_column_Reader_Uint (L := blk g0 83 [.slice A100 n101 c102, .int .i64 x122, .slice A103 n104 c105] :: own k41 41 A103 n104 c105 a0.f2 :: L) y112.2 1024 g1 h126 (qz + 2) hZ X)) (fun w hR => ?_) rfl
  replace X := hR
  obtain ⟨A127, n128, c129, X⟩ := obj106_open X
  obtain ⟨h130, X⟩ := (X.pk 1).unpure
  replace X := SH.pure_ h106 X
  replace X := X.pk 3 |>.pk 3
  replace X := obj83_mk (x := (⟨a0.f0, x122, a0.f2⟩ : S83)) X
  replace X := SH.pure_ h130 X
  replace X := X.pk 2
  replace X := obj106_mk (x := y125) X
  replace X := X.pk 1
  cases G
  exact hQp _ rfl _ _ J.defers X
 replace G := sum_l G
 refine x_callw' (vs := #[.pointer (some ⟨g1, 0, none⟩), .int .u64 1024]) en58 J (RetS.lf (F_column_Reader_Uint (L := blk g0 83 [.slice A100 n101 c102, .int .i64 x122, .slice A103 n104 c105] :: own k41 41 A103 n104 c105 a0.f2 :: L) y112.2 1024 g1 h126 (qz + 2) hZ X)) (fun v U w hR J => ?_) rfl
 obtain ⟨rfl, X⟩ := hR
 obtain ⟨A131, n132, c133, X⟩ := obj106_open X
 obtain ⟨h134, X⟩ := (X.pk 1).unpure
 refine x_m J rfl fun U J => ?_
 refine wn (hK124 _ _ ?_)
 refine wp_seq_k fun K135 hK135 => ?_
 have hj1 : ∀ (l136 : (List Int)), segment_Segment_foot_j1 a0 x122 y125 l136 = some y → ∀ (A137 : Option Addr) (n138 : Nat) (c139 : Nat) (h140 : Imm Z wz (kI .u8) A137 n138 c139 l136) (U : Act) (w : World), FR 132 [] U [(0, (pP g0)), (1, (pP g1)), (4, .int .u64 y125.1)] → SH r (blk g0 83 [.slice A100 n101 c102, .int .i64 x122, .slice A103 n104 c105] :: blk g1 106 [.slice A137 n138 c139] :: own k41 41 A103 n104 c105 a0.f2 :: L) w → K135 U w := by
  intro l136 G A137 n138 c139 h140 U w J X
  unfold segment_Segment_foot_j1 at G
  refine hK135 _ _ ?_
  refine ws fun K141 hK141 => ?_
  refine x_m J rfl fun U J => ?_
  refine x_m J rfl fun U J => ?_
  refine wn (hK141 _ _ ?_)
  refine wp_block_k fun Kx142 hKx142 => ?_
  have hb1 : ∀ (l143 : (List S41)) (l144 : (List Int)), segment_Segment_foot_b1 a0 x122 l143 l144 = some y → ∀ (A145 : Option Addr) (n146 : Nat) (c147 : Nat) (A148 : Option Addr) (n149 : Nat) (c150 : Nat) (h151 : Imm Z wz (kI .u8) A148 n149 c150 l144) (U : Act) (w : World), FR 132 [] U [(0, (pP g0)), (1, (pP g1))] → SH r (blk g0 83 [.slice A100 n101 c102, .int .i64 x122, .slice A145 n146 c147] :: blk g1 106 [.slice A148 n149 c150] :: own k41 41 A145 n146 c147 l143 :: L) w → Kx142 U w := by
   intro l143 l144 G A145 n146 c147 A148 n149 c150 h151 U w J X
   unfold segment_Segment_foot_b1 at G
   refine hKx142 _ _ ?_
   replace X := SH.pure_ h106 X
   replace X := X.pk 3 |>.pk 2
   replace X := obj83_mk (x := (⟨a0.f0, x122, l143⟩ : S83)) X
   replace X := SH.pure_ h151 X
   replace X := X.pk 2
   replace X := obj106_mk (x := (⟨l144⟩ : S106)) X
   replace X := X.pk 1
   cases G
   refine hQn _ rfl _ _ ?_
   refine lv0n Tryd.results40 J ?_
   exact ⟨rfl, X⟩
  obtain ⟨t152, hl152, G⟩ := bnd G
  have hR152 := G
  have hx152_0 : ∀ (l153 : (List S41)) (l154 : (List Int)), (.inl (l153, l154)) = t152 → ∀ (A155 : Option Addr) (n156 : Nat) (c157 : Nat) (A158 : Option Addr) (n159 : Nat) (c160 : Nat) (h152 : Imm Z wz (kI .u8) A158 n159 c160 l154) (U : Act) (w : World), FR 132 [] U [(0, (pP g0)), (1, (pP g1))] → SH r (blk g0 83 [.slice A100 n101 c102, .int .i64 x122, .slice A155 n156 c157] :: blk g1 106 [.slice A158 n159 c160] :: own k41 41 A155 n156 c157 l153 :: L) w → Kx142 U w := by
   intro l153 l154 ht A155 n156 c157 A158 n159 c160 h152 U w J X
   subst ht
   replace G : segment_Segment_foot_x1_0 a0 x122 l153 l154 = some y := G
   unfold segment_Segment_foot_x1_0 at G
   exact hb1 l153 l154 G A155 n156 c157 A158 n159 c160 h152 U w (J.sub _ rfl) X
  refine wp_loop_fn hl152 (fun s U w => ∃ (A161 : Option Addr) (n162 : Nat) (c163 : Nat) (A164 : Option Addr) (n165 : Nat) (c166 : Nat), Imm Z wz (kI .u8) A164 n165 c166 s.2.1 ∧ FR 132 [] U [(0, (pP g0)), (1, (pP g1)), (26, .int .u64 y125.1), (27, .int .u64 s.2.2)] ∧ SH r (blk g0 83 [.slice A100 n101 c102, .int .i64 x122, .slice A161 n162 c163] :: blk g1 106 [.slice A164 n165 c166] :: own k41 41 A161 n162 c163 s.1 :: L) w) ⟨A103, n104, c105, A137, n138, c139, h140, J.sub _ rfl, X⟩ ?_
  intro N152 s152 o152 G N152_ T152_ U w hLab
  obtain ⟨l167, l168, x169⟩ := s152
  replace G : segment_Segment_foot_l1 a0 x122 y125 l167 l168 x169 = some o152 := G
  unfold segment_Segment_foot_l1 at G
  try dsimp only at hLab
  obtain ⟨A161, n162, c163, A164, n165, c166, h170, J, X⟩ := hLab
  refine ws fun K171 hK171 => ?_
  refine x_v J (r_ltI rfl (J.ev rfl) (J.ev rfl)) rfl fun U J => ?_
  refine wn (hK171 _ _ ?_)
  refine wp_seq_k fun K172 hK172 => ?_
  refine c_if J rfl (fun hb173 => ?_) fun hb173 => ?_
  ·replace G := ift hb173 G
   refine wp_skip ?_
   refine hK172 _ _ ?_
   refine wp_seq_k fun K174 hK174 => ?_
   refine wp_block_k fun Kx175 hKx175 => ?_
   refine ws fun K176 hK176 => ?_
   refine x_m J rfl fun U J => ?_
   refine x_m J rfl fun U J => ?_
   refine wn (hK176 _ _ ?_)
   refine wp_seq_k fun K177 hK177 => ?_
   have hj2 : ∀ (l178 : (List Int)) (x179 : Int) (x180 : Int), segment_Segment_foot_j2 a0 x122 l167 x169 l178 x179 x180 = some o152 → ∀ (A181 : Option Addr) (n182 : Nat) (c183 : Nat) (g184 : Nat) (h185 : Imm Z wz (kI .u8) A181 n182 c183 l178) (U : Act) (w : World), FR 132 [] U [(0, (pP g0)), (1, (pP g1)), (5, .int .u64 x169), (6, (pP g184)), (26, .int .u64 y125.1), (27, .int .u64 x169)] → SH r (blk g0 83 [.slice A100 n101 c102, .int .i64 x122, .slice A161 n162 c163] :: blk g1 106 [.slice A181 n182 c183] :: blk g184 41 [.int .i64 x179, .int .i64 x180, .int .u64 0, .int .u64 0, .int .i64 0, .int .i64 0, str [], str []] :: own k41 41 A161 n162 c163 l167 :: L) w → K177 U w := by
    intro l178 x179 x180 G A181 n182 c183 g184 h185 U w J X
    unfold segment_Segment_foot_j2 at G
    refine hK177 _ _ ?_
    refine ws fun K186 hK186 => ?_
    refine x_m J rfl fun U J => ?_
    replace X := SH.pure_ h185 X
    replace X := X.pk 2
    replace X := obj106_mk (x := (⟨l178⟩ : S106)) X
    obtain ⟨y187, h188, G⟩ := bnd G
    rcases y187 with y187 | y187
    rotate_left
    ·replace G := sum_r G
     refine x_callp' (vs := #[.pointer (some ⟨g1, 0, none⟩), .int .u64 1099511627776]) en58 J (RetS.rf (F_column_Reader_Uint (L := blk g0 83 [.slice A100 n101 c102, .int .i64 x122, .slice A161 n162 c163] :: blk g184 41 [.int .i64 x179, .int .i64 x180, .int .u64 0, .int .u64 0, .int .i64 0, .int .i64 0, str [], str []] :: own k41 41 A161 n162 c163 l167 :: L) (⟨l178⟩ : S106) 1099511627776 g1 h188 (qz + 3) hZ X)) (fun w hR => ?_) rfl
     replace X := hR
     obtain ⟨A189, n190, c191, X⟩ := obj106_open X
     obtain ⟨h192, X⟩ := (X.pk 1).unpure
     replace X := SH.pure_ h106 X
     replace X := X.pk 4 |>.pk 3
     replace X := obj83_mk (x := (⟨a0.f0, x122, l167⟩ : S83)) X
     replace X := SH.pure_ h192 X
     replace X := X.pk 2
     replace X := obj106_mk (x := y187) X
     replace X := X.drop 2 |>.pk 1
     cases G
     have ht := T152_ _ rfl
     subst ht
     replace G := hR152
     replace G : some (.inr ((⟨a0.f0, x122, l167⟩ : S83), y187)) = some y := G
     cases G
     exact hQp _ rfl _ _ J.defers X
    replace G := sum_l G
    refine x_callw' (vs := #[.pointer (some ⟨g1, 0, none⟩), .int .u64 1099511627776]) en58 J (RetS.lf (F_column_Reader_Uint (L := blk g0 83 [.slice A100 n101 c102, .int .i64 x122, .slice A161 n162 c163] :: blk g184 41 [.int .i64 x179, .int .i64 x180, .int .u64 0, .int .u64 0, .int .i64 0, .int .i64 0, str [], str []] :: own k41 41 A161 n162 c163 l167 :: L) (⟨l178⟩ : S106) 1099511627776 g1 h188 (qz + 3) hZ X)) (fun v U w hR J => ?_) rfl
    obtain ⟨rfl, X⟩ := hR
    obtain ⟨A193, n194, c195, X⟩ := obj106_open X
    obtain ⟨h196, X⟩ := (X.pk 1).unpure
    refine x_m J rfl fun U J => ?_
    replace X := SH.pure_ h196 X
    replace X := X.pk 1
    replace X := obj106_mk (x := y187.2) X
    obtain ⟨y197, h198, G⟩ := bnd G
    rcases y197 with y197 | y197
    rotate_left
    ·replace G := sum_r G
     refine x_callp' (vs := #[.pointer (some ⟨g1, 0, none⟩), .int .u64 1099511627776]) en58 J (RetS.rf (F_column_Reader_Uint (L := blk g0 83 [.slice A100 n101 c102, .int .i64 x122, .slice A161 n162 c163] :: blk g184 41 [.int .i64 x179, .int .i64 x180, .int .u64 0, .int .u64 0, .int .i64 0, .int .i64 0, str [], str []] :: own k41 41 A161 n162 c163 l167 :: L) y187.2 1099511627776 g1 h198 (qz + 3) hZ X)) (fun w hR => ?_) rfl
     replace X := hR
     obtain ⟨A199, n200, c201, X⟩ := obj106_open X
     obtain ⟨h202, X⟩ := (X.pk 1).unpure
     replace X := SH.pure_ h106 X
     replace X := X.pk 4 |>.pk 3
     replace X := obj83_mk (x := (⟨a0.f0, x122, l167⟩ : S83)) X
     replace X := SH.pure_ h202 X
     replace X := X.pk 2
     replace X := obj106_mk (x := y197) X
     replace X := X.drop 2 |>.pk 1
     cases G
     have ht := T152_ _ rfl
     subst ht
     replace G := hR152
     replace G : some (.inr ((⟨a0.f0, x122, l167⟩ : S83), y197)) = some y := G
     cases G
     exact hQp _ rfl _ _ J.defers X
    replace G := sum_l G
    refine x_callw' (vs := #[.pointer (some ⟨g1, 0, none⟩), .int .u64 1099511627776]) en58 J (RetS.lf (F_column_Reader_Uint (L := blk g0 83 [.slice A100 n101 c102, .int .i64 x122, .slice A161 n162 c163] :: blk g184 41 [.int .i64 x179, .int .i64 x180, .int .u64 0, .int .u64 0, .int .i64 0, .int .i64 0, str [], str []] :: own k41 41 A161 n162 c163 l167 :: L) y187.2 1099511627776 g1 h198 (qz + 3) hZ X)) (fun v U w hR J => ?_) rfl
    obtain ⟨rfl, X⟩ := hR
    obtain ⟨A203, n204, c205, X⟩ := obj106_open X
    obtain ⟨h206, X⟩ := (X.pk 1).unpure
    refine x_fab' fa41_2 J (fun U J => ?_) rfl
    refine x_stb' 2 sz31 J X rfl (fun  U w X J => ?_) rfl
    refine x_fab' fa41_3 J (fun U J => ?_) rfl
    refine x_stb' 0 sz31 J X rfl (fun  U w X J => ?_) rfl
    refine wn (hK186 _ _ ?_)
    refine ws fun K207 hK207 => ?_
    refine x_m J rfl fun U J => ?_
    replace X := SH.pure_ h206 X
    replace X := X.pk 2
    replace X := obj106_mk (x := y197.2) X
    obtain ⟨y208, h209, G⟩ := bnd G
    rcases y208 with y208 | y208
    rotate_left
    ·replace G := sum_r G
     refine x_callp' (vs := #[.pointer (some ⟨g1, 0, none⟩)]) en60 J (RetS.rf (F_column_Reader_Int (L := blk g184 41 [.int .i64 x179, .int .i64 x180, .int .u64 y187.1, .int .u64 y197.1, .int .i64 0, .int .i64 0, str [], str []] :: blk g0 83 [.slice A100 n101 c102, .int .i64 x122, .slice A161 n162 c163] :: own k41 41 A161 n162 c163 l167 :: L) y197.2 g1 h209 (qz + 3) hZ X)) (fun w hR => ?_) rfl
     replace X := hR
     obtain ⟨A210, n211, c212, X⟩ := obj106_open X
     obtain ⟨h213, X⟩ := (X.pk 1).unpure
     replace X := SH.pure_ h106 X
     replace X := X.pk 4 |>.pk 4
     replace X := obj83_mk (x := (⟨a0.f0, x122, l167⟩ : S83)) X
     replace X := SH.pure_ h213 X
     replace X := X.pk 2
     replace X := obj106_mk (x := y208) X
     replace X := X.drop 2 |>.pk 1
     cases G
     have ht := T152_ _ rfl
     subst ht
     replace G := hR152
     replace G : some (.inr ((⟨a0.f0, x122, l167⟩ : S83), y208)) = some y := G
     cases G
     exact hQp _ rfl _ _ J.defers X
    replace G := sum_l G
    refine x_callw' (vs := #[.pointer (some ⟨g1, 0, none⟩)]) en60 J (RetS.lf (F_column_Reader_Int (L := blk g184 41 [.int .i64 x179, .int .i64 x180, .int .u64 y187.1, .int .u64 y197.1, .int .i64 0, .int .i64 0, str [], str []] :: blk g0 83 [.slice A100 n101 c102, .int .i64 x122, .slice A161 n162 c163] :: own k41 41 A161 n162 c163 l167 :: L) y197.2 g1 h209 (qz + 3) hZ X)) (fun v U w hR J => ?_) rfl
    obtain ⟨rfl, X⟩ := hR
    obtain ⟨A214, n215, c216, X⟩ := obj106_open X
    obtain ⟨h217, X⟩ := (X.pk 1).unpure
    refine x_m J rfl fun U J => ?_
    replace X := SH.pure_ h217 X
    replace X := X.pk 1
    replace X := obj106_mk (x := y208.2) X
    obtain ⟨y218, h219, G⟩ := bnd G
    rcases y218 with y218 | y218
    rotate_left
    ·replace G := sum_r G
     refine x_callp' (vs := #[.pointer (some ⟨g1, 0, none⟩)]) en60 J (RetS.rf (F_column_Reader_Int (L := blk g184 41 [.int .i64 x179, .int .i64 x180, .int .u64 y187.1, .int .u64 y197.1, .int .i64 0, .int .i64 0, str [], str []] :: blk g0 83 [.slice A100 n101 c102, .int .i64 x122, .slice A161 n162 c163] :: own k41 41 A161 n162 c163 l167 :: L) y208.2 g1 h219 (qz + 3) hZ X)) (fun w hR => ?_) rfl
     replace X := hR
     obtain ⟨A220, n221, c222, X⟩ := obj106_open X
     obtain ⟨h223, X⟩ := (X.pk 1).unpure
     replace X := SH.pure_ h106 X
     replace X := X.pk 4 |>.pk 4
     replace X := obj83_mk (x := (⟨a0.f0, x122, l167⟩ : S83)) X
     replace X := SH.pure_ h223 X
     replace X := X.pk 2
     replace X := obj106_mk (x := y218) X
     replace X := X.drop 2 |>.pk 1
     cases G
     have ht := T152_ _ rfl
     subst ht
     replace G := hR152
     replace G : some (.inr ((⟨a0.f0, x122, l167⟩ : S83), y218)) = some y := G
     cases G
     exact hQp _ rfl _ _ J.defers X
    replace G := sum_l G
    refine x_callw' (vs := #[.pointer (some ⟨g1, 0, none⟩)]) en60 J (RetS.lf (F_column_Reader_Int (L := blk g184 41 [.int .i64 x179, .int .i64 x180, .int .u64 y187.1, .int .u64 y197.1, .int .i64 0, .int .i64 0, str [], str []] :: blk g0 83 [.slice A100 n101 c102, .int .i64 x122, .slice A161 n162 c163] :: own k41 41 A161 n162 c163 l167 :: L) y208.2 g1 h219 (qz + 3) hZ X)) (fun v U w hR J => ?_) rfl
    obtain ⟨rfl, X⟩ := hR
    obtain ⟨A224, n225, c226, X⟩ := obj106_open X
    obtain ⟨h227, X⟩ := (X.pk 1).unpure
    refine x_fab' fa41_4 J (fun U J => ?_) rfl
    refine x_stb' 1 sz2 J X rfl (fun  U w X J => ?_) rfl
    refine x_fab' fa41_5 J (fun U J => ?_) rfl
    refine x_stb' 0 sz2 J X rfl (fun  U w X J => ?_) rfl
    refine wn (hK207 _ _ ?_)
    refine ws fun K228 hK228 => ?_
    refine x_m J rfl fun U J => ?_
    replace X := SH.pure_ h227 X
    replace X := X.pk 2
    replace X := obj106_mk (x := y218.2) X
    obtain ⟨y229, h230, G⟩ := bnd G
    rcases y229 with y229 | y229
    rotate_left
    ·replace G := sum_r G
     refine x_callp' (vs := #[.pointer (some ⟨g1, 0, none⟩), .int .i64 32]) en61 J (RetS.rf (F_column_Reader_Text (L := blk g184 41 [.int .i64 x179, .int .i64 x180, .int .u64 y187.1, .int .u64 y197.1, .int .i64 y208.1, .int .i64 y218.1, str [], str []] :: blk g0 83 [.slice A100 n101 c102, .int .i64 x122, .slice A161 n162 c163] :: own k41 41 A161 n162 c163 l167 :: L) y218.2 32 g1 h230 (qz + 3) hZ X)) (fun w hR => ?_) rfl
     replace X := hR
     obtain ⟨A231, n232, c233, X⟩ := obj106_open X
     obtain ⟨h234, X⟩ := (X.pk 1).unpure
     replace X := SH.pure_ h106 X
     replace X := X.pk 4 |>.pk 4
     replace X := obj83_mk (x := (⟨a0.f0, x122, l167⟩ : S83)) X
     replace X := SH.pure_ h234 X
     replace X := X.pk 2
     replace X := obj106_mk (x := y229) X
     replace X := X.drop 2 |>.pk 1
     cases G
     have ht := T152_ _ rfl
     subst ht
     replace G := hR152
     replace G : some (.inr ((⟨a0.f0, x122, l167⟩ : S83), y229)) = some y := G
     cases G
     exact hQp _ rfl _ _ J.defers X
    replace G := sum_l G
    refine x_callw' (vs := #[.pointer (some ⟨g1, 0, none⟩), .int .i64 32]) en61 J (RetS.lf (F_column_Reader_Text (L := blk g184 41 [.int .i64 x179, .int .i64 x180, .int .u64 y187.1, .int .u64 y197.1, .int .i64 y208.1, .int .i64 y218.1, str [], str []] :: blk g0 83 [.slice A100 n101 c102, .int .i64 x122, .slice A161 n162 c163] :: own k41 41 A161 n162 c163 l167 :: L) y218.2 32 g1 h230 (qz + 3) hZ X)) (fun v U w hR J => ?_) rfl
    obtain ⟨rfl, X⟩ := hR
    obtain ⟨A235, n236, c237, X⟩ := obj106_open X
    obtain ⟨h238, X⟩ := (X.pk 1).unpure
    refine x_m J rfl fun U J => ?_
    replace X := SH.pure_ h238 X
    replace X := X.pk 1
    replace X := obj106_mk (x := y229.2) X
    obtain ⟨y239, h240, G⟩ := bnd G
    rcases y239 with y239 | y239
    rotate_left
    ·replace G := sum_r G
     refine x_callp' (vs := #[.pointer (some ⟨g1, 0, none⟩), .int .i64 32]) en61 J (RetS.rf (F_column_Reader_Text (L := blk g184 41 [.int .i64 x179, .int .i64 x180, .int .u64 y187.1, .int .u64 y197.1, .int .i64 y208.1, .int .i64 y218.1, str [], str []] :: blk g0 83 [.slice A100 n101 c102, .int .i64 x122, .slice A161 n162 c163] :: own k41 41 A161 n162 c163 l167 :: L) y229.2 32 g1 h240 (qz + 3) hZ X)) (fun w hR => ?_) rfl
     replace X := hR
     obtain ⟨A241, n242, c243, X⟩ := obj106_open X
     obtain ⟨h244, X⟩ := (X.pk 1).unpure
     replace X := SH.pure_ h106 X
     replace X := X.pk 4 |>.pk 4
     replace X := obj83_mk (x := (⟨a0.f0, x122, l167⟩ : S83)) X
     replace X := SH.pure_ h244 X
     replace X := X.pk 2
     replace X := obj106_mk (x := y239) X
     replace X := X.drop 2 |>.pk 1
     cases G
     have ht := T152_ _ rfl
     subst ht
     replace G := hR152
     replace G : some (.inr ((⟨a0.f0, x122, l167⟩ : S83), y239)) = some y := G
     cases G
     exact hQp _ rfl _ _ J.defers X
    replace G := sum_l G
    refine x_callw' (vs := #[.pointer (some ⟨g1, 0, none⟩), .int .i64 32]) en61 J (RetS.lf (F_column_Reader_Text (L := blk g184 41 [.int .i64 x179, .int .i64 x180, .int .u64 y187.1, .int .u64 y197.1, .int .i64 y208.1, .int .i64 y218.1, str [], str []] :: blk g0 83 [.slice A100 n101 c102, .int .i64 x122, .slice A161 n162 c163] :: own k41 41 A161 n162 c163 l167 :: L) y229.2 32 g1 h240 (qz + 3) hZ X)) (fun v U w hR J => ?_) rfl
    obtain ⟨rfl, X⟩ := hR
    obtain ⟨A245, n246, c247, X⟩ := obj106_open X
    obtain ⟨h248, X⟩ := (X.pk 1).unpure
    refine x_fab' fa41_6 J (fun U J => ?_) rfl
    refine x_stb' 1 sz9 J X rfl (fun  U w X J => ?_) rfl
    refine x_fab' fa41_7 J (fun U J => ?_) rfl
    refine x_stb' 0 sz9 J X rfl (fun  U w X J => ?_) rfl
    refine wn (hK228 _ _ ?_)
    refine wp_seq_k fun K249 hK249 => ?_
    have hj3 : ∀ (l250 : (List Int)), segment_Segment_foot_j3 a0 x122 l167 x169 x179 x180 y187 y197 y208 y218 y229 y239 l250 = some o152 → ∀ (A251 : Option Addr) (n252 : Nat) (c253 : Nat) (h254 : Imm Z wz (kI .u8) A251 n252 c253 l250) (U : Act) (w : World), FR 132 [] U [(0, (pP g0)), (1, (pP g1)), (5, .int .u64 x169), (6, (pP g184)), (26, .int .u64 y125.1), (27, .int .u64 x169)] → SH r (blk g0 83 [.slice A100 n101 c102, .int .i64 x122, .slice A161 n162 c163] :: blk g1 106 [.slice A251 n252 c253] :: blk g184 41 [.int .i64 x179, .int .i64 x180, .int .u64 y187.1, .int .u64 y197.1, .int .i64 y208.1, .int .i64 y218.1, str y229.1, str y239.1] :: own k41 41 A161 n162 c163 l167 :: L) w → K249 U w := by
     intro l250 G A251 n252 c253 h254 U w J X
     unfold segment_Segment_foot_j3 at G
     refine hK249 _ _ ?_
     refine wp_seq_k fun K255 hK255 => ?_
     have hj4 : ∀ (l256 : (List Int)), segment_Segment_foot_j4 l167 x169 x179 x180 y187 y197 y208 y218 y229 y239 l256 = some o152 → ∀ (A257 : Option Addr) (n258 : Nat) (c259 : Nat) (h260 : Imm Z wz (kI .u8) A257 n258 c259 l256) (U : Act) (w : World), FR 132 [] U [(0, (pP g0)), (1, (pP g1)), (6, (pP g184)), (26, .int .u64 y125.1), (27, .int .u64 x169)] → SH r (blk g0 83 [.slice A100 n101 c102, .int .i64 x122, .slice A161 n162 c163] :: blk g1 106 [.slice A257 n258 c259] :: blk g184 41 [.int .i64 x179, .int .i64 x180, .int .u64 y187.1, .int .u64 y197.1, .int .i64 y208.1, .int .i64 y218.1, str y229.1, str y239.1] :: own k41 41 A161 n162 c163 l167 :: L) w → K255 U w := by
      intro l256 G A257 n258 c259 h260 U w J X
      unfold segment_Segment_foot_j4 at G
      refine hK255 _ _ ?_
      refine wp_draw [0, 0, 2, 6, 14, 0, 32, 126, 255, 511, 1023] [6, 7, 10] rfl J X (by kernel_rfl) (by kernel_rfl) (by kernel_rfl) (by kernel_rfl) fun w X => ?_
      refine ⟨[(0, (pP g0)), (1, (pP g0)), (2, (pP g0)), (3, .pointer (some ⟨g0, 2, none⟩)), (4, .slice A161 n162 c163), (5, .agg #[.int .i64 x179, .int .i64 x180, .int .u64 y187.1, .int .u64 y197.1, .int .i64 y208.1, .int .i64 y218.1, str y229.1, str y239.1])], ?_⟩
      refine dF [0, 1, 2, 3, 4, 5] [6] (by kernel_rfl) ⟨pm rfl, pm rfl, pt [(122, (pP g0))] rfl (fun U J => r_nilCheck rfl (J.ev rfl)), pt [(123, (pP g0))] rfl (fun U J => y_fab fa83_2 J rfl rfl), pt [(124, .pointer (some ⟨g0, 2, none⟩))] rfl (fun U J => y_ld uu38 (X.cell 0 rfl 2 _ rfl) J rfl rfl rfl), pt [(6, (pP g184))] rfl (fun U J => y_lda (ad := ⟨g184, 0, none⟩) (cs := [.int .i64 x179, .int .i64 x180, .int .u64 y187.1, .int .u64 y197.1, .int .i64 y208.1, .int .i64 y218.1, str y229.1, str y239.1]) uu41 sz41 (fun j u h => by rw [add_mk, Nat.zero_add]; exact X.cell 2 rfl j u h) J rfl rfl rfl), trivial⟩ ⟨et [(126, .agg #[.int .i64 x179, .int .i64 x180, .int .u64 y187.1, .int .u64 y197.1, .int .i64 y208.1, .int .i64 y218.1, str y229.1, str y239.1])] rfl (fun U J K hK => ?_), trivial⟩
      refine z_bsl' (d := k41) (e := 41) (ps := #[(0, .agg #[.int .i64 x179, .int .i64 x180, .int .u64 y187.1, .int .u64 y197.1, .int .i64 y208.1, .int .i64 y218.1, str y229.1, str y239.1])]) (cells := [.int .i64 x179, .int .i64 x180, .int .u64 y187.1, .int .u64 y197.1, .int .i64 y208.1, .int .i64 y218.1, str y229.1, str y239.1]) (xs := [(⟨x179, x180, y187.1, y197.1, y208.1, y218.1, y229.1, y239.1⟩ : S41)]) (fun w => by kernel_rfl) rfl ⟨[.int .i64 x179, .int .i64 x180, .int .u64 y187.1, .int .u64 y197.1, .int .i64 y208.1, .int .i64 y218.1, str y229.1, str y239.1], _, rfl, rfl, rfl⟩ J X (fun g261 w X => ?_) rfl
      refine hK _ [] _ rfl ?_
      refine dF [0, 1, 2, 3, 4] [7] (by kernel_rfl) ⟨pm rfl, pm rfl, pt [(122, (pP g0))] rfl (fun U J => r_nilCheck rfl (J.ev rfl)), pt [(123, (pP g0))] rfl (fun U J => y_fab fa83_2 J rfl rfl), pt [(124, .pointer (some ⟨g0, 2, none⟩))] rfl (fun U J => y_ld uu38 (X.cell 1 rfl 2 _ rfl) J rfl rfl rfl), trivial⟩ ⟨et [(125, .slice A161 n162 c163), (127, .slice (some ⟨g261, 0, none⟩) 1 1)] rfl (fun U J K hK => ?_), trivial⟩
      obtain ⟨h262, G⟩ := chk_some G
      have hr := X.rd 0 rfl
      refine z_app' 4 inf41 uu38 J X hr.1 hr.2.1 h262 rfl (fun A263 n264 c265 w X => ?_) rfl
      refine hK _ [(8, (pP g0)), (9, .pointer (some ⟨g0, 2, none⟩))] _ rfl ?_
      refine dF [0, 8, 9] [10] (by kernel_rfl) ⟨pm rfl, pt [(121, (pP g0))] rfl (fun U J => r_nilCheck rfl (J.ev rfl)), pt [(129, (pP g0))] rfl (fun U J => y_fab fa83_2 J rfl rfl), trivial⟩ ⟨et [(128, .slice A263 n264 c265), (130, .pointer (some ⟨g0, 2, none⟩))] rfl (fun U J K hK => ?_), trivial⟩
      refine z_stb' 2 sz38 J X rfl (fun  w X => ?_) rfl
      refine hK _ [] _ rfl ?_
      refine dEnd [] (by kernel_rfl) trivial ⟨by kernel_rfl, by kernel_rfl⟩ [(0, (pP g0)), (1, (pP g1)), (26, .int .u64 y125.1), (27, .int .u64 x169)] rfl (fun U J => ?_)
      refine hKx175 _ _ ?_
      refine hK174 _ _ ?_
      refine wp_reg ?_
      obtain ⟨x266, h267, G⟩ := ltt_ G
      refine x_v (v := .int .u64 x266) J (rv_i h267 (r_add rfl (J.ev rfl) (J.ev rfl))) rfl fun U J => ?_
      refine x_m J rfl fun U J => ?_
      refine wpList_nil ?_
      replace X := X.drop 2 |>.drop 3 |>.pk 1 |>.pk 2 |>.pk 2
      cases G
      exact ⟨_, N152_ _ rfl, A263, n264, c265, A257, n258, c259, h260, J.sub _ rfl, X⟩
     refine ws fun K268 hK268 => ?_
     refine x_m J rfl fun U J => ?_
     refine x_v J (r_gtI rfl (J.ev rfl) (J.ev rfl)) rfl fun U J => ?_
     refine wn (hK268 _ _ ?_)
     refine c_if J rfl (fun hb269 => ?_) fun hb269 => ?_
     ·replace G := ift hb269 G
      refine wp_draw [0, 0, 2, 0, 8, 24, 56, 0, 128, 504, 1016, 2040, 4088, 8190, 16382, 32766, 65534, 32766, 163838, 425982, 950270, 32766, 2129918, 8290302, 16678910, 33456126, 67108862, 134217726, 268435455] [28] rfl J X (by kernel_rfl) (by kernel_rfl) (by kernel_rfl) (by kernel_rfl) fun w X => ?_
      obtain ⟨x270, h271, G⟩ := ltt_ G
      obtain ⟨x272, h273, G⟩ := bnd G
      obtain ⟨cs, hV, hc274⟩ := el (X.rd 3 rfl) h273
      obtain rfl := hV
      obtain ⟨x275, h276, G⟩ := ltt_ G
      refine bcase (b := y187.1 == x275) (fun hb277 => ?_) fun hb277 => ?_
      ·replace G := ift hb277 G
       obtain ⟨cs, hV, hc278⟩ := el (X.rd 3 rfl) h273
       obtain rfl := hV
       refine ⟨[(0, (pP g1)), (1, .pointer (some ⟨g184, 2, none⟩)), (2, .int .u64 y187.1), (3, (pP g0)), (4, (pP g0)), (5, .pointer (some ⟨g0, 2, none⟩)), (6, .slice A161 n162 c163), (7, .int .u64 x169), (8, .int .u64 x270), (9, .pointer (some (ea A161 (x270.toNat * 8)))), (10, .pointer (some (ea A161 (x270.toNat * 8 + 3)))), (11, .int .u64 x272.f3), (12, .int .u64 x275), (13, .bool (y187.1 == x275)), (14, .bool (y187.1 == x275)), (15, .pointer (some ⟨g184, 1, none⟩)), (16, .int .i64 x180), (17, (pP g0)), (18, (pP g0)), (19, .pointer (some ⟨g0, 2, none⟩)), (20, .slice A161 n162 c163), (21, .int .u64 x169), (22, .int .u64 x270), (23, .pointer (some (ea A161 (x270.toNat * 8)))), (24, .pointer (some (ea A161 (x270.toNat * 8 + 1)))), (25, .int .i64 x272.f1), (26, .bool (decide (x272.f1 < x180))), (27, .bool (decide (x272.f1 < x180)))], ?_⟩
       refine dF [0, 1, 2, 3, 4, 5, 6, 7, 8, 9, 10, 11, 12, 13, 14, 15, 16, 17, 18, 19, 20, 21, 22, 23, 24, 25, 26, 27] [28] (by kernel_rfl) ⟨pm rfl, pt [(6, (pP g184))] rfl (fun U J => y_fab fa41_2 J rfl rfl), pt [(88, .pointer (some ⟨g184, 2, none⟩))] rfl (fun U J => y_ld uu31 (X.cell 2 rfl 2 _ rfl) J rfl rfl rfl), pm rfl, pt [(90, (pP g0))] rfl (fun U J => r_nilCheck rfl (J.ev rfl)), pt [(91, (pP g0))] rfl (fun U J => y_fab fa83_2 J rfl rfl), pt [(92, .pointer (some ⟨g0, 2, none⟩))] rfl (fun U J => y_ld uu38 (X.cell 0 rfl 2 _ rfl) J rfl rfl rfl), pm rfl, pt [(94, .int .u64 x169)] rfl (fun U J => (rv_i h271 (r_sub rfl (J.ev rfl) (J.ev rfl)) : RunV _ _ _ _ (.int .u64 x270))), pt [(93, .slice A161 n162 c163), (95, .int .u64 x270)] rfl (fun U J => y_ia uu38 sz41 (X.rd 3 rfl) h273 J rfl rfl rfl), pt [(96, .pointer (some (ea A161 (x270.toNat * 8))))] rfl (fun U J => y_fae (m := x270.toNat * 8) fa41_3 J rfl rfl), pt [(97, .pointer (some (ea A161 (x270.toNat * 8 + 3))))] rfl (fun U J => y_ld uu31 (hc274 3 _ rfl) J rfl rfl rfl), pt [(98, .int .u64 x272.f3)] rfl (fun U J => (rv_i h276 (r_add rfl (J.ev rfl) (J.ev rfl)) : RunV _ _ _ _ (.int .u64 x275))), pt [(89, .int .u64 y187.1), (99, .int .u64 x275)] rfl (fun U J => r_eqI rfl (J.ev rfl) (J.ev rfl)), pm rfl, puOn rfl rfl rfl rfl [(6, (pP g184)), (101, .bool (y187.1 == x275))] rfl hb277 (fun U J => y_fab fa41_1 J rfl rfl) rfl, puOn rfl rfl rfl rfl [(101, .bool (y187.1 == x275)), (102, .pointer (some ⟨g184, 1, none⟩))] rfl hb277 (fun U J => y_ld uu3 (X.cell 2 rfl 1 _ rfl) J rfl rfl rfl) rfl, puOn rfl rfl rfl rfl [(0, (pP g0)), (101, .bool (y187.1 == x275))] rfl hb277 (fun U J => y_move J rfl rfl) rfl, puOn rfl rfl rfl rfl [(101, .bool (y187.1 == x275)), (104, (pP g0))] rfl hb277 (fun U J => r_nilCheck rfl (J.ev rfl)) rfl, puOn rfl rfl rfl rfl [(101, .bool (y187.1 == x275)), (105, (pP g0))] rfl hb277 (fun U J => y_fab fa83_2 J rfl rfl) rfl, puOn rfl rfl rfl rfl [(101, .bool (y187.1 == x275)), (106, .pointer (some ⟨g0, 2, none⟩))] rfl hb277 (fun U J => y_ld uu38 (X.cell 0 rfl 2 _ rfl) J rfl rfl rfl) rfl, puOn rfl rfl rfl rfl [(5, .int .u64 x169), (101, .bool (y187.1 == x275))] rfl hb277 (fun U J => y_move J rfl rfl) rfl, puOn rfl rfl rfl rfl [(101, .bool (y187.1 == x275)), (108, .int .u64 x169)] rfl hb277 (fun U J => (rv_i h271 (r_sub rfl (J.ev rfl) (J.ev rfl)) : RunV _ _ _ _ (.int .u64 x270))) rfl, puOn rfl rfl rfl rfl [(101, .bool (y187.1 == x275)), (107, .slice A161 n162 c163), (109, .int .u64 x270)] rfl hb277 (fun U J => y_ia uu38 sz41 (X.rd 3 rfl) h273 J rfl rfl rfl) rfl, puOn rfl rfl rfl rfl [(101, .bool (y187.1 == x275)), (110, .pointer (some (ea A161 (x270.toNat * 8))))] rfl hb277 (fun U J => y_fae (m := x270.toNat * 8) fa41_1 J rfl rfl) rfl, puOn rfl rfl rfl rfl [(101, .bool (y187.1 == x275)), (111, .pointer (some (ea A161 (x270.toNat * 8 + 1))))] rfl hb277 (fun U J => y_ld uu3 (hc278 1 _ rfl) J rfl rfl rfl) rfl, puOn rfl rfl rfl rfl [(101, .bool (y187.1 == x275)), (103, .int .i64 x180), (112, .int .i64 x272.f1)] rfl hb277 (fun U J => r_gtI rfl (J.ev rfl) (J.ev rfl)) rfl, pt [(101, .bool (y187.1 == x275)), (113, .bool (decide (x272.f1 < x180)))] rfl (fun U J => y_pickt hb277 J rfl rfl rfl), trivial⟩ ⟨et [(87, (pP g1)), (114, .bool (decide (x272.f1 < x180)))] rfl (fun U J K hK => ?_), trivial⟩
       replace X := SH.pure_ h254 X
       replace X := X.pk 2
       replace X := obj106_mk (x := (⟨l250⟩ : S106)) X
       obtain ⟨y279, h280, G⟩ := bnd G
       rcases y279 with y279 | y279
       rotate_left
       ·replace G := sum_r G
        refine z_callp' (vs := #[.pointer (some ⟨g1, 0, none⟩), .bool (decide (x272.f1 < x180))]) en59 J (RetS.rf (F_column_Reader_Check (L := blk g0 83 [.slice A100 n101 c102, .int .i64 x122, .slice A161 n162 c163] :: blk g184 41 [.int .i64 x179, .int .i64 x180, .int .u64 y187.1, .int .u64 y197.1, .int .i64 y208.1, .int .i64 y218.1, str y229.1, str y239.1] :: own k41 41 A161 n162 c163 l167 :: L) (⟨l250⟩ : S106) (decide (x272.f1 < x180)) g1 h280 (qz + 3) hZ X)) (fun w hR => ?_) rfl
        replace X := hR
        obtain ⟨A281, n282, c283, X⟩ := obj106_open X
        obtain ⟨h284, X⟩ := (X.pk 1).unpure
        replace X := SH.pure_ h106 X
        replace X := X.pk 4 |>.pk 3
        replace X := obj83_mk (x := (⟨a0.f0, x122, l167⟩ : S83)) X
        replace X := SH.pure_ h284 X
        replace X := X.pk 2
        replace X := obj106_mk (x := y279) X
        replace X := X.drop 2 |>.pk 1
        cases G
        have ht := T152_ _ rfl
        subst ht
        replace G := hR152
        replace G : some (.inr ((⟨a0.f0, x122, l167⟩ : S83), y279)) = some y := G
        cases G
        exact hQp _ rfl _ _ J.defers X
       replace G := sum_l G
       refine z_callw' (vs := #[.pointer (some ⟨g1, 0, none⟩), .bool (decide (x272.f1 < x180))]) en59 J (RetS.lf (F_column_Reader_Check (L := blk g0 83 [.slice A100 n101 c102, .int .i64 x122, .slice A161 n162 c163] :: blk g184 41 [.int .i64 x179, .int .i64 x180, .int .u64 y187.1, .int .u64 y197.1, .int .i64 y208.1, .int .i64 y218.1, str y229.1, str y239.1] :: own k41 41 A161 n162 c163 l167 :: L) (⟨l250⟩ : S106) (decide (x272.f1 < x180)) g1 h280 (qz + 3) hZ X)) (fun v w hR => ?_) rfl
       obtain ⟨rfl, X⟩ := hR
       obtain ⟨A285, n286, c287, X⟩ := obj106_open X
       obtain ⟨h288, X⟩ := (X.pk 1).unpure
       refine hK _ [] _ rfl ?_
       refine dEnd [] (by kernel_rfl) trivial ⟨by kernel_rfl, by kernel_rfl⟩ [(0, (pP g0)), (1, (pP g1)), (6, (pP g184)), (26, .int .u64 y125.1), (27, .int .u64 x169), (102, .pointer (some ⟨g184, 1, none⟩)), (103, .int .i64 x180), (104, (pP g0)), (105, (pP g0)), (106, .pointer (some ⟨g0, 2, none⟩)), (107, .slice A161 n162 c163), (108, .int .u64 x169), (109, .int .u64 x270), (112, .int .i64 x272.f1), (113, .bool (decide (x272.f1 < x180)))] rfl (fun U J => ?_)
       replace X := X.pk 3 |>.pk 3 |>.pk 2 |>.pk 3
       exact hj4 y279.f0 G A285 n286 c287 h288 U w (J.sub _ rfl) X
      replace G := iff' hb277 G
      refine ⟨[(0, (pP g1)), (1, .pointer (some ⟨g184, 2, none⟩)), (2, .int .u64 y187.1), (3, (pP g0)), (4, (pP g0)), (5, .pointer (some ⟨g0, 2, none⟩)), (6, .slice A161 n162 c163), (7, .int .u64 x169), (8, .int .u64 x270), (9, .pointer (some (ea A161 (x270.toNat * 8)))), (10, .pointer (some (ea A161 (x270.toNat * 8 + 3)))), (11, .int .u64 x272.f3), (12, .int .u64 x275), (13, .bool (y187.1 == x275)), (14, .bool (y187.1 == x275)), (15, undef), (16, undef), (17, undef), (18, undef), (19, undef), (20, undef), (21, undef), (22, undef), (23, undef), (24, undef), (25, undef), (26, undef), (27, .bool false)], ?_⟩
      refine dF [0, 1, 2, 3, 4, 5, 6, 7, 8, 9, 10, 11, 12, 13, 14, 15, 16, 17, 18, 19, 20, 21, 22, 23, 24, 25, 26, 27] [28] (by kernel_rfl) ⟨pm rfl, pt [(6, (pP g184))] rfl (fun U J => y_fab fa41_2 J rfl rfl), pt [(88, .pointer (some ⟨g184, 2, none⟩))] rfl (fun U J => y_ld uu31 (X.cell 2 rfl 2 _ rfl) J rfl rfl rfl), pm rfl, pt [(90, (pP g0))] rfl (fun U J => r_nilCheck rfl (J.ev rfl)), pt [(91, (pP g0))] rfl (fun U J => y_fab fa83_2 J rfl rfl), pt [(92, .pointer (some ⟨g0, 2, none⟩))] rfl (fun U J => y_ld uu38 (X.cell 0 rfl 2 _ rfl) J rfl rfl rfl), pm rfl, pt [(94, .int .u64 x169)] rfl (fun U J => (rv_i h271 (r_sub rfl (J.ev rfl) (J.ev rfl)) : RunV _ _ _ _ (.int .u64 x270))), pt [(93, .slice A161 n162 c163), (95, .int .u64 x270)] rfl (fun U J => y_ia uu38 sz41 (X.rd 3 rfl) h273 J rfl rfl rfl), pt [(96, .pointer (some (ea A161 (x270.toNat * 8))))] rfl (fun U J => y_fae (m := x270.toNat * 8) fa41_3 J rfl rfl), pt [(97, .pointer (some (ea A161 (x270.toNat * 8 + 3))))] rfl (fun U J => y_ld uu31 (hc274 3 _ rfl) J rfl rfl rfl), pt [(98, .int .u64 x272.f3)] rfl (fun U J => (rv_i h276 (r_add rfl (J.ev rfl) (J.ev rfl)) : RunV _ _ _ _ (.int .u64 x275))), pt [(89, .int .u64 y187.1), (99, .int .u64 x275)] rfl (fun U J => r_eqI rfl (J.ev rfl) (J.ev rfl)), pm rfl, puOff rfl rfl rfl rfl [(6, (pP g184)), (101, .bool (y187.1 == x275))] rfl hb277 rfl, puOff rfl rfl rfl rfl [(101, .bool (y187.1 == x275)), (102, undef)] rfl hb277 rfl, puOff rfl rfl rfl rfl [(0, (pP g0)), (101, .bool (y187.1 == x275))] rfl hb277 rfl, puOff rfl rfl rfl rfl [(101, .bool (y187.1 == x275)), (104, undef)] rfl hb277 rfl, puOff rfl rfl rfl rfl [(101, .bool (y187.1 == x275)), (105, undef)] rfl hb277 rfl, puOff rfl rfl rfl rfl [(101, .bool (y187.1 == x275)), (106, undef)] rfl hb277 rfl, puOff rfl rfl rfl rfl [(5, .int .u64 x169), (101, .bool (y187.1 == x275))] rfl hb277 rfl, puOff rfl rfl rfl rfl [(101, .bool (y187.1 == x275)), (108, undef)] rfl hb277 rfl, puOff rfl rfl rfl rfl [(101, .bool (y187.1 == x275)), (107, undef), (109, undef)] rfl hb277 rfl, puOff rfl rfl rfl rfl [(101, .bool (y187.1 == x275)), (110, undef)] rfl hb277 rfl, puOff rfl rfl rfl rfl [(101, .bool (y187.1 == x275)), (111, undef)] rfl hb277 rfl, puOff rfl rfl rfl rfl [(101, .bool (y187.1 == x275)), (103, undef), (112, undef)] rfl hb277 rfl, pt [(101, .bool (y187.1 == x275)), (113, undef)] rfl (fun U J => y_pickf hb277 J rfl rfl rfl), trivial⟩ ⟨et [(87, (pP g1)), (114, .bool false)] rfl (fun U J K hK => ?_), trivial⟩
      replace X := SH.pure_ h254 X
      replace X := X.pk 2
      replace X := obj106_mk (x := (⟨l250⟩ : S106)) X
      obtain ⟨y289, h290, G⟩ := bnd G
      rcases y289 with y289 | y289
      rotate_left
      ·replace G := sum_r G
       refine z_callp' (vs := #[.pointer (some ⟨g1, 0, none⟩), .bool false]) en59 J (RetS.rf (F_column_Reader_Check (L := blk g0 83 [.slice A100 n101 c102, .int .i64 x122, .slice A161 n162 c163] :: blk g184 41 [.int .i64 x179, .int .i64 x180, .int .u64 y187.1, .int .u64 y197.1, .int .i64 y208.1, .int .i64 y218.1, str y229.1, str y239.1] :: own k41 41 A161 n162 c163 l167 :: L) (⟨l250⟩ : S106) false g1 h290 (qz + 3) hZ X)) (fun w hR => ?_) rfl
       replace X := hR
       obtain ⟨A291, n292, c293, X⟩ := obj106_open X
       obtain ⟨h294, X⟩ := (X.pk 1).unpure
       replace X := SH.pure_ h106 X
       replace X := X.pk 4 |>.pk 3
       replace X := obj83_mk (x := (⟨a0.f0, x122, l167⟩ : S83)) X
       replace X := SH.pure_ h294 X
       replace X := X.pk 2
       replace X := obj106_mk (x := y289) X
       replace X := X.drop 2 |>.pk 1
       cases G
       have ht := T152_ _ rfl
       subst ht
       replace G := hR152
       replace G : some (.inr ((⟨a0.f0, x122, l167⟩ : S83), y289)) = some y := G
       cases G
       exact hQp _ rfl _ _ J.defers X
      replace G := sum_l G
      refine z_callw' (vs := #[.pointer (some ⟨g1, 0, none⟩), .bool false]) en59 J (RetS.lf (F_column_Reader_Check (L := blk g0 83 [.slice A100 n101 c102, .int .i64 x122, .slice A161 n162 c163] :: blk g184 41 [.int .i64 x179, .int .i64 x180, .int .u64 y187.1, .int .u64 y197.1, .int .i64 y208.1, .int .i64 y218.1, str y229.1, str y239.1] :: own k41 41 A161 n162 c163 l167 :: L) (⟨l250⟩ : S106) false g1 h290 (qz + 3) hZ X)) (fun v w hR => ?_) rfl
      obtain ⟨rfl, X⟩ := hR
      obtain ⟨A295, n296, c297, X⟩ := obj106_open X
      obtain ⟨h298, X⟩ := (X.pk 1).unpure
      refine hK _ [] _ rfl ?_
      refine dEnd [] (by kernel_rfl) trivial ⟨by kernel_rfl, by kernel_rfl⟩ [(0, (pP g0)), (1, (pP g1)), (6, (pP g184)), (26, .int .u64 y125.1), (27, .int .u64 x169)] rfl (fun U J => ?_)
      replace X := X.pk 3 |>.pk 3 |>.pk 2 |>.pk 3
      exact hj4 y289.f0 G A295 n296 c297 h298 U w (J.sub _ rfl) X
     replace G := iff' hb269 G
     refine wp_reg ?_
     refine x_m J rfl fun U J => ?_
     refine x_fab' fa41_1 J (fun U J => ?_) rfl
     refine x_ld' uu3 (X.cell 2 rfl 1 _ rfl) J (fun U J => ?_) rfl
     refine x_v J (r_eqI rfl (J.ev rfl) (J.ev rfl)) rfl fun U J => ?_
     replace X := SH.pure_ h254 X
     replace X := X.pk 2
     replace X := obj106_mk (x := (⟨l250⟩ : S106)) X
     obtain ⟨y299, h300, G⟩ := bnd G
     rcases y299 with y299 | y299
     rotate_left
     ·replace G := sum_r G
      refine x_callp' (vs := #[.pointer (some ⟨g1, 0, none⟩), .bool (x180 == 0)]) en59 J (RetS.rf (F_column_Reader_Check (L := blk g0 83 [.slice A100 n101 c102, .int .i64 x122, .slice A161 n162 c163] :: blk g184 41 [.int .i64 x179, .int .i64 x180, .int .u64 y187.1, .int .u64 y197.1, .int .i64 y208.1, .int .i64 y218.1, str y229.1, str y239.1] :: own k41 41 A161 n162 c163 l167 :: L) (⟨l250⟩ : S106) (x180 == 0) g1 h300 (qz + 3) hZ X)) (fun w hR => ?_) rfl
      replace X := hR
      obtain ⟨A301, n302, c303, X⟩ := obj106_open X
      obtain ⟨h304, X⟩ := (X.pk 1).unpure
      replace X := SH.pure_ h106 X
      replace X := X.pk 4 |>.pk 3
      replace X := obj83_mk (x := (⟨a0.f0, x122, l167⟩ : S83)) X
      replace X := SH.pure_ h304 X
      replace X := X.pk 2
      replace X := obj106_mk (x := y299) X
      replace X := X.drop 2 |>.pk 1
      cases G
      have ht := T152_ _ rfl
      subst ht
      replace G := hR152
      replace G : some (.inr ((⟨a0.f0, x122, l167⟩ : S83), y299)) = some y := G
      cases G
      exact hQp _ rfl _ _ J.defers X
     replace G := sum_l G
     refine x_callw' (vs := #[.pointer (some ⟨g1, 0, none⟩), .bool (x180 == 0)]) en59 J (RetS.lf (F_column_Reader_Check (L := blk g0 83 [.slice A100 n101 c102, .int .i64 x122, .slice A161 n162 c163] :: blk g184 41 [.int .i64 x179, .int .i64 x180, .int .u64 y187.1, .int .u64 y197.1, .int .i64 y208.1, .int .i64 y218.1, str y229.1, str y239.1] :: own k41 41 A161 n162 c163 l167 :: L) (⟨l250⟩ : S106) (x180 == 0) g1 h300 (qz + 3) hZ X)) (fun v U w hR J => ?_) rfl
     obtain ⟨rfl, X⟩ := hR
     obtain ⟨A305, n306, c307, X⟩ := obj106_open X
     obtain ⟨h308, X⟩ := (X.pk 1).unpure
     refine wpList_nil ?_
     replace X := X.pk 3 |>.pk 3 |>.pk 2 |>.pk 3
     exact hj4 y299.f0 G A305 n306 c307 h308 U w (J.sub _ rfl) X
    refine wp_reg ?_
    refine x_m J rfl fun U J => ?_
    refine x_fab' fa41_0 J (fun U J => ?_) rfl
    refine x_ld' uu3 (X.cell 0 rfl 0 _ rfl) J (fun U J => ?_) rfl
    refine x_v J (r_gtI rfl (J.ev rfl) (J.ev rfl)) rfl fun U J => ?_
    refine x_m J rfl fun U J => ?_
    refine bcase (b := decide (0 < x179)) (fun hb309 => ?_) fun hb309 => ?_
    ·replace G := ift hb309 G
     refine x_on' hb309 J ?_ rfl
     refine x_fab' fa41_3 J (fun U J => ?_) rfl
     refine x_on' hb309 J ?_ rfl
     refine x_ld' uu31 (X.cell 0 rfl 3 _ rfl) J (fun U J => ?_) rfl
     refine x_on' hb309 J ?_ rfl
     refine x_fab' fa41_2 J (fun U J => ?_) rfl
     refine x_on' hb309 J ?_ rfl
     refine x_ld' uu31 (X.cell 0 rfl 2 _ rfl) J (fun U J => ?_) rfl
     refine x_on' hb309 J ?_ rfl
     obtain ⟨x310, h311, G⟩ := ltt_ G
     refine x_v (v := .int .u64 x310) J (rv_i h311 (r_sub rfl (J.ev rfl) (J.ev rfl))) rfl fun U J => ?_
     refine x_on' hb309 J ?_ rfl
     refine x_fab' fa41_0 J (fun U J => ?_) rfl
     refine x_on' hb309 J ?_ rfl
     refine x_ld' uu3 (X.cell 0 rfl 0 _ rfl) J (fun U J => ?_) rfl
     refine x_on' hb309 J ?_ rfl
     obtain ⟨x312, h313, G⟩ := ltt_ G
     refine x_v (v := .int .i64 x312) J (rv_i h313 (r_sub rfl (J.ev rfl) (J.ev rfl))) rfl fun U J => ?_
     refine x_on' hb309 J ?_ rfl
     obtain ⟨x314, h315, G⟩ := ltt_ G
     refine x_v (v := .int .u64 x314) J (rv_i h315 (r_convI uu3 uu31 rfl (J.ev rfl))) rfl fun U J => ?_
     refine x_on' hb309 J ?_ rfl
     refine x_v J (r_eqI rfl (J.ev rfl) (J.ev rfl)) rfl fun U J => ?_
     refine x_pickt' hb309 J (fun U J => ?_) rfl
     refine x_m J rfl fun U J => ?_
     refine bcase (b := x310 == x314) (fun hb316 => ?_) fun hb316 => ?_
     ·replace G := ift hb316 G
      refine x_on' hb316 J ?_ rfl
      refine x_fab' fa41_2 J (fun U J => ?_) rfl
      refine x_on' hb316 J ?_ rfl
      refine x_ld' uu31 (X.cell 0 rfl 2 _ rfl) J (fun U J => ?_) rfl
      refine x_on' hb316 J ?_ rfl
      refine x_fab' fa41_3 J (fun U J => ?_) rfl
      refine x_on' hb316 J ?_ rfl
      refine x_ld' uu31 (X.cell 0 rfl 3 _ rfl) J (fun U J => ?_) rfl
      refine x_on' hb316 J ?_ rfl
      refine x_v J (r_leI rfl (J.ev rfl) (J.ev rfl)) rfl fun U J => ?_
      refine x_pickt' hb316 J (fun U J => ?_) rfl
      replace X := SH.pure_ h248 X
      replace X := X.pk 2
      replace X := obj106_mk (x := y239.2) X
      obtain ⟨y317, h318, G⟩ := bnd G
      rcases y317 with y317 | y317
      rotate_left
      ·replace G := sum_r G
       refine x_callp' (vs := #[.pointer (some ⟨g1, 0, none⟩), .bool (decide (y187.1 ≤ y197.1))]) en59 J (RetS.rf (F_column_Reader_Check (L := blk g184 41 [.int .i64 x179, .int .i64 x180, .int .u64 y187.1, .int .u64 y197.1, .int .i64 y208.1, .int .i64 y218.1, str y229.1, str y239.1] :: blk g0 83 [.slice A100 n101 c102, .int .i64 x122, .slice A161 n162 c163] :: own k41 41 A161 n162 c163 l167 :: L) y239.2 (decide (y187.1 ≤ y197.1)) g1 h318 (qz + 3) hZ X)) (fun w hR => ?_) rfl
       replace X := hR
       obtain ⟨A319, n320, c321, X⟩ := obj106_open X
       obtain ⟨h322, X⟩ := (X.pk 1).unpure
       replace X := SH.pure_ h106 X
       replace X := X.pk 4 |>.pk 4
       replace X := obj83_mk (x := (⟨a0.f0, x122, l167⟩ : S83)) X
       replace X := SH.pure_ h322 X
       replace X := X.pk 2
       replace X := obj106_mk (x := y317) X
       replace X := X.drop 2 |>.pk 1
       cases G
       have ht := T152_ _ rfl
       subst ht
       replace G := hR152
       replace G : some (.inr ((⟨a0.f0, x122, l167⟩ : S83), y317)) = some y := G
       cases G
       exact hQp _ rfl _ _ J.defers X
      replace G := sum_l G
      refine x_callw' (vs := #[.pointer (some ⟨g1, 0, none⟩), .bool (decide (y187.1 ≤ y197.1))]) en59 J (RetS.lf (F_column_Reader_Check (L := blk g184 41 [.int .i64 x179, .int .i64 x180, .int .u64 y187.1, .int .u64 y197.1, .int .i64 y208.1, .int .i64 y218.1, str y229.1, str y239.1] :: blk g0 83 [.slice A100 n101 c102, .int .i64 x122, .slice A161 n162 c163] :: own k41 41 A161 n162 c163 l167 :: L) y239.2 (decide (y187.1 ≤ y197.1)) g1 h318 (qz + 3) hZ X)) (fun v U w hR J => ?_) rfl
      obtain ⟨rfl, X⟩ := hR
      obtain ⟨A323, n324, c325, X⟩ := obj106_open X
      obtain ⟨h326, X⟩ := (X.pk 1).unpure
      refine wpList_nil ?_
      replace X := X.pk 3 |>.pk 2 |>.pk 2 |>.pk 3
      exact hj3 y317.f0 G A323 n324 c325 h326 U w (J.sub _ rfl) X
     replace G := iff' hb316 G
     refine xO 5 hb316 J rfl fun U J => ?_
     refine x_pickf' hb316 J (fun U J => ?_) rfl
     replace X := SH.pure_ h248 X
     replace X := X.pk 2
     replace X := obj106_mk (x := y239.2) X
     obtain ⟨y327, h328, G⟩ := bnd G
     rcases y327 with y327 | y327
     rotate_left
     ·replace G := sum_r G
      refine x_callp' (vs := #[.pointer (some ⟨g1, 0, none⟩), .bool false]) en59 J (RetS.rf (F_column_Reader_Check (L := blk g184 41 [.int .i64 x179, .int .i64 x180, .int .u64 y187.1, .int .u64 y197.1, .int .i64 y208.1, .int .i64 y218.1, str y229.1, str y239.1] :: blk g0 83 [.slice A100 n101 c102, .int .i64 x122, .slice A161 n162 c163] :: own k41 41 A161 n162 c163 l167 :: L) y239.2 false g1 h328 (qz + 3) hZ X)) (fun w hR => ?_) rfl
      replace X := hR
      obtain ⟨A329, n330, c331, X⟩ := obj106_open X
      obtain ⟨h332, X⟩ := (X.pk 1).unpure
      replace X := SH.pure_ h106 X
      replace X := X.pk 4 |>.pk 4
      replace X := obj83_mk (x := (⟨a0.f0, x122, l167⟩ : S83)) X
      replace X := SH.pure_ h332 X
      replace X := X.pk 2
      replace X := obj106_mk (x := y327) X
      replace X := X.drop 2 |>.pk 1
      cases G
      have ht := T152_ _ rfl
      subst ht
      replace G := hR152
      replace G : some (.inr ((⟨a0.f0, x122, l167⟩ : S83), y327)) = some y := G
      cases G
      exact hQp _ rfl _ _ J.defers X
     replace G := sum_l G
     refine x_callw' (vs := #[.pointer (some ⟨g1, 0, none⟩), .bool false]) en59 J (RetS.lf (F_column_Reader_Check (L := blk g184 41 [.int .i64 x179, .int .i64 x180, .int .u64 y187.1, .int .u64 y197.1, .int .i64 y208.1, .int .i64 y218.1, str y229.1, str y239.1] :: blk g0 83 [.slice A100 n101 c102, .int .i64 x122, .slice A161 n162 c163] :: own k41 41 A161 n162 c163 l167 :: L) y239.2 false g1 h328 (qz + 3) hZ X)) (fun v U w hR J => ?_) rfl
     obtain ⟨rfl, X⟩ := hR
     obtain ⟨A333, n334, c335, X⟩ := obj106_open X
     obtain ⟨h336, X⟩ := (X.pk 1).unpure
     refine wpList_nil ?_
     replace X := X.pk 3 |>.pk 2 |>.pk 2 |>.pk 3
     exact hj3 y327.f0 G A333 n334 c335 h336 U w (J.sub _ rfl) X
    replace G := iff' hb309 G
    refine xO 10 hb309 J rfl fun U J => ?_
    refine x_pickf' hb309 J (fun U J => ?_) rfl
    refine x_m J rfl fun U J => ?_
    refine xO 5 rfl J rfl fun U J => ?_
    refine x_pickf' rfl J (fun U J => ?_) rfl
    replace X := SH.pure_ h248 X
    replace X := X.pk 2
    replace X := obj106_mk (x := y239.2) X
    obtain ⟨y337, h338, G⟩ := bnd G
    rcases y337 with y337 | y337
    rotate_left
    ·replace G := sum_r G
     refine x_callp' (vs := #[.pointer (some ⟨g1, 0, none⟩), .bool false]) en59 J (RetS.rf (F_column_Reader_Check (L := blk g184 41 [.int .i64 x179, .int .i64 x180, .int .u64 y187.1, .int .u64 y197.1, .int .i64 y208.1, .int .i64 y218.1, str y229.1, str y239.1] :: blk g0 83 [.slice A100 n101 c102, .int .i64 x122, .slice A161 n162 c163] :: own k41 41 A161 n162 c163 l167 :: L) y239.2 false g1 h338 (qz + 3) hZ X)) (fun w hR => ?_) rfl
     replace X := hR
     obtain ⟨A339, n340, c341, X⟩ := obj106_open X
     obtain ⟨h342, X⟩ := (X.pk 1).unpure
     replace X := SH.pure_ h106 X
     replace X := X.pk 4 |>.pk 4
     replace X := obj83_mk (x := (⟨a0.f0, x122, l167⟩ : S83)) X
     replace X := SH.pure_ h342 X
     replace X := X.pk 2
     replace X := obj106_mk (x := y337) X
     replace X := X.drop 2 |>.pk 1
     cases G
     have ht := T152_ _ rfl
     subst ht
     replace G := hR152
     replace G : some (.inr ((⟨a0.f0, x122, l167⟩ : S83), y337)) = some y := G
     cases G
     exact hQp _ rfl _ _ J.defers X
    replace G := sum_l G
    refine x_callw' (vs := #[.pointer (some ⟨g1, 0, none⟩), .bool false]) en59 J (RetS.lf (F_column_Reader_Check (L := blk g184 41 [.int .i64 x179, .int .i64 x180, .int .u64 y187.1, .int .u64 y197.1, .int .i64 y208.1, .int .i64 y218.1, str y229.1, str y239.1] :: blk g0 83 [.slice A100 n101 c102, .int .i64 x122, .slice A161 n162 c163] :: own k41 41 A161 n162 c163 l167 :: L) y239.2 false g1 h338 (qz + 3) hZ X)) (fun v U w hR J => ?_) rfl
    obtain ⟨rfl, X⟩ := hR
    obtain ⟨A343, n344, c345, X⟩ := obj106_open X
    obtain ⟨h346, X⟩ := (X.pk 1).unpure
    refine wpList_nil ?_
    replace X := X.pk 3 |>.pk 2 |>.pk 2 |>.pk 3
    exact hj3 y337.f0 G A343 n344 c345 h346 U w (J.sub _ rfl) X
   refine wp_draw [0, 1, 3, 0, 0, 16, 48, 112, 240, 496, 1019, 2043, 4095, 0, 16383] [1, 10, 13, 14] rfl J X (by kernel_rfl) (by kernel_rfl) (by kernel_rfl) (by kernel_rfl) fun w X => ?_
   obtain ⟨x347, h348, G⟩ := ltt_ G
   refine ⟨[(0, (pP g1)), (3, (pP g1)), (4, (pP g0)), (5, (pP g0)), (6, (pP g0)), (7, .slice A100 n101 c102), (8, .int .i64 (a0.f0.length : Int)), (9, .int .u64 x347)], ?_⟩
   refine dF [0, 3, 4, 5, 6, 7, 8, 9] [1, 13] (by kernel_rfl) ⟨pm rfl, pm rfl, pm rfl, pt [(34, (pP g0))] rfl (fun U J => r_nilCheck rfl (J.ev rfl)), pt [(35, (pP g0))] rfl (fun U J => y_fab fa83_0 J rfl rfl), pt [(36, (pP g0))] rfl (fun U J => y_ld uu24 (X.cell 0 rfl 0 _ rfl) J rfl rfl rfl), pt [(37, .slice A100 n101 c102)] rfl (fun U J => y_len uu24 (X.rdl 3 (h106.rdl qz hZ) rfl).2.1 J rfl rfl), pt [(38, .int .i64 (a0.f0.length : Int))] rfl (fun U J => (rv_i h348 (r_convI uu3 uu31 rfl (J.ev rfl)) : RunV _ _ _ _ (.int .u64 x347))), trivial⟩ ⟨?_, ?_, trivial⟩
   ·refine et [(30, (pP g1))] rfl (fun U J K hK => ?_)
    replace X := SH.pure_ h170 X
    replace X := X.pk 2
    replace X := obj106_mk (x := (⟨l168⟩ : S106)) X
    obtain ⟨y349, h350, G⟩ := bnd G
    rcases y349 with y349 | y349
    rotate_left
    ·replace G := sum_r G
     refine z_callp' (vs := #[.pointer (some ⟨g1, 0, none⟩), .int .u64 64]) en58 J (RetS.rf (F_column_Reader_Uint (L := blk g0 83 [.slice A100 n101 c102, .int .i64 x122, .slice A161 n162 c163] :: own k41 41 A161 n162 c163 l167 :: L) (⟨l168⟩ : S106) 64 g1 h350 (qz + 2) hZ X)) (fun w hR => ?_) rfl
     replace X := hR
     obtain ⟨A351, n352, c353, X⟩ := obj106_open X
     obtain ⟨h354, X⟩ := (X.pk 1).unpure
     replace X := SH.pure_ h106 X
     replace X := X.pk 3 |>.pk 3
     replace X := obj83_mk (x := (⟨a0.f0, x122, l167⟩ : S83)) X
     replace X := SH.pure_ h354 X
     replace X := X.pk 2
     replace X := obj106_mk (x := y349) X
     replace X := X.pk 1
     cases G
     have ht := T152_ _ rfl
     subst ht
     replace G := hR152
     replace G : some (.inr ((⟨a0.f0, x122, l167⟩ : S83), y349)) = some y := G
     cases G
     exact hQp _ rfl _ _ J.defers X
    replace G := sum_l G
    refine z_callw' (vs := #[.pointer (some ⟨g1, 0, none⟩), .int .u64 64]) en58 J (RetS.lf (F_column_Reader_Uint (L := blk g0 83 [.slice A100 n101 c102, .int .i64 x122, .slice A161 n162 c163] :: own k41 41 A161 n162 c163 l167 :: L) (⟨l168⟩ : S106) 64 g1 h350 (qz + 2) hZ X)) (fun v w hR => ?_) rfl
    obtain ⟨rfl, X⟩ := hR
    obtain ⟨A355, n356, c357, X⟩ := obj106_open X
    obtain ⟨h358, X⟩ := (X.pk 1).unpure
    obtain ⟨x359, h360, G⟩ := ltt_ G
    refine hK _ [(2, .int .i64 x359)] _ rfl ?_
    refine dF [2, 3, 4, 5, 6, 7, 8, 9] [10, 13] (by kernel_rfl) ⟨pt [(31, .int .u64 y349.1)] rfl (fun U J => (rv_i h360 (r_convI uu31 uu3 rfl (J.ev rfl)) : RunV _ _ _ _ (.int .i64 x359))), pm rfl, pm rfl, pt [(34, (pP g0))] rfl (fun U J => r_nilCheck rfl (J.ev rfl)), pt [(35, (pP g0))] rfl (fun U J => y_fab fa83_0 J rfl rfl), pt [(36, (pP g0))] rfl (fun U J => y_ld uu24 (X.cell 1 rfl 0 _ rfl) J rfl rfl rfl), pt [(37, .slice A100 n101 c102)] rfl (fun U J => y_len uu24 (X.rdl 3 (h106.rdl qz hZ) rfl).2.1 J rfl rfl), pt [(38, .int .i64 (a0.f0.length : Int))] rfl (fun U J => (rv_i h348 (r_convI uu3 uu31 rfl (J.ev rfl)) : RunV _ _ _ _ (.int .u64 x347))), trivial⟩ ⟨?_, ?_, trivial⟩
    ·refine et [(33, (pP g1)), (39, .int .u64 x347)] rfl (fun U J K hK => ?_)
     replace X := SH.pure_ h358 X
     replace X := X.pk 1
     replace X := obj106_mk (x := y349.2) X
     obtain ⟨y361, h362, G⟩ := bnd G
     rcases y361 with y361 | y361
     rotate_left
     ·replace G := sum_r G
      refine z_callp' (vs := #[.pointer (some ⟨g1, 0, none⟩), .int .u64 x347]) en58 J (RetS.rf (F_column_Reader_Uint (L := blk g0 83 [.slice A100 n101 c102, .int .i64 x122, .slice A161 n162 c163] :: own k41 41 A161 n162 c163 l167 :: L) y349.2 x347 g1 h362 (qz + 2) hZ X)) (fun w hR => ?_) rfl
      replace X := hR
      obtain ⟨A363, n364, c365, X⟩ := obj106_open X
      obtain ⟨h366, X⟩ := (X.pk 1).unpure
      replace X := SH.pure_ h106 X
      replace X := X.pk 3 |>.pk 3
      replace X := obj83_mk (x := (⟨a0.f0, x122, l167⟩ : S83)) X
      replace X := SH.pure_ h366 X
      replace X := X.pk 2
      replace X := obj106_mk (x := y361) X
      replace X := X.pk 1
      cases G
      have ht := T152_ _ rfl
      subst ht
      replace G := hR152
      replace G : some (.inr ((⟨a0.f0, x122, l167⟩ : S83), y361)) = some y := G
      cases G
      exact hQp _ rfl _ _ J.defers X
     replace G := sum_l G
     refine z_callw' (vs := #[.pointer (some ⟨g1, 0, none⟩), .int .u64 x347]) en58 J (RetS.lf (F_column_Reader_Uint (L := blk g0 83 [.slice A100 n101 c102, .int .i64 x122, .slice A161 n162 c163] :: own k41 41 A161 n162 c163 l167 :: L) y349.2 x347 g1 h362 (qz + 2) hZ X)) (fun v w hR => ?_) rfl
     obtain ⟨rfl, X⟩ := hR
     obtain ⟨A367, n368, c369, X⟩ := obj106_open X
     obtain ⟨h370, X⟩ := (X.pk 1).unpure
     obtain ⟨x371, h372, G⟩ := ltt_ G
     refine hK _ [(11, .int .i64 x371), (12, .agg #[.int .i64 x359, .int .i64 x371, .int .u64 0, .int .u64 0, .int .i64 0, .int .i64 0, str [], str []])] _ rfl ?_
     refine dF [2, 11, 12] [13] (by kernel_rfl) ⟨pt [(31, .int .u64 y349.1)] rfl (fun U J => (rv_i h360 (r_convI uu31 uu3 rfl (J.ev rfl)) : RunV _ _ _ _ (.int .i64 x359))), pt [(40, .int .u64 y361.1)] rfl (fun U J => (rv_i h372 (r_convI uu31 uu3 rfl (J.ev rfl)) : RunV _ _ _ _ (.int .i64 x371))), pt [(32, .int .i64 x359), (41, .int .i64 x371)] rfl (fun U J => (r_build (ps := #[(0, .int .i64 x359), (1, .int .i64 x371)]) rfl (mapev2 J rfl) (fun w => by kernel_rfl) : RunV _ _ _ _ (.agg #[.int .i64 x359, .int .i64 x371, .int .u64 0, .int .u64 0, .int .i64 0, .int .i64 0, str [], str []]))), trivial⟩ ⟨et [] rfl (fun U J K hK => ?_), trivial⟩
     refine z_alloc' (cs := [.int .i64 0, .int .i64 0, .int .u64 0, .int .u64 0, .int .i64 0, .int .i64 0, str [], str []]) zr41 J X (fun g373 w X => ?_) rfl
     refine hK _ [] _ rfl ?_
     refine dF [2, 11, 12] [14] (by kernel_rfl) ⟨pt [(31, .int .u64 y349.1)] rfl (fun U J => (rv_i h360 (r_convI uu31 uu3 rfl (J.ev rfl)) : RunV _ _ _ _ (.int .i64 x359))), pt [(40, .int .u64 y361.1)] rfl (fun U J => (rv_i h372 (r_convI uu31 uu3 rfl (J.ev rfl)) : RunV _ _ _ _ (.int .i64 x371))), pt [(32, .int .i64 x359), (41, .int .i64 x371)] rfl (fun U J => (r_build (ps := #[(0, .int .i64 x359), (1, .int .i64 x371)]) rfl (mapev2 J rfl) (fun w => by kernel_rfl) : RunV _ _ _ _ (.agg #[.int .i64 x359, .int .i64 x371, .int .u64 0, .int .u64 0, .int .i64 0, .int .i64 0, str [], str []]))), trivial⟩ ⟨et [(6, (pP g373)), (42, .agg #[.int .i64 x359, .int .i64 x371, .int .u64 0, .int .u64 0, .int .i64 0, .int .i64 0, str [], str []])] rfl (fun U J K hK => ?_), trivial⟩
     refine z_stb' 0 sz41 J X rfl (fun  w X => ?_) rfl
     refine hK _ [] _ rfl ?_
     refine dEnd [] (by kernel_rfl) trivial ⟨by kernel_rfl, by kernel_rfl⟩ [(0, (pP g0)), (1, (pP g1)), (5, .int .u64 x169), (6, (pP g373)), (26, .int .u64 y125.1), (27, .int .u64 x169)] rfl (fun U J => ?_)
     replace X := X.pk 3 |>.pk 1 |>.pk 2 |>.pk 3
     exact hj2 y361.2.f0 x359 x371 G A367 n368 c369 g373 h370 U w (J.sub _ rfl) X
    ·refine et [] rfl (fun U J K hK => ?_)
     refine z_alloc' (cs := [.int .i64 0, .int .i64 0, .int .u64 0, .int .u64 0, .int .i64 0, .int .i64 0, str [], str []]) zr41 J X (fun g374 w X => ?_) rfl
     refine hK _ [] _ rfl ?_
     refine dF [2, 3, 4, 5, 6, 7, 8, 9] [10] (by kernel_rfl) ⟨pt [(31, .int .u64 y349.1)] rfl (fun U J => (rv_i h360 (r_convI uu31 uu3 rfl (J.ev rfl)) : RunV _ _ _ _ (.int .i64 x359))), pm rfl, pm rfl, pt [(34, (pP g0))] rfl (fun U J => r_nilCheck rfl (J.ev rfl)), pt [(35, (pP g0))] rfl (fun U J => y_fab fa83_0 J rfl rfl), pt [(36, (pP g0))] rfl (fun U J => y_ld uu24 (X.cell 2 rfl 0 _ rfl) J rfl rfl rfl), pt [(37, .slice A100 n101 c102)] rfl (fun U J => y_len uu24 (X.rdl 4 (h106.rdl qz hZ) rfl).2.1 J rfl rfl), pt [(38, .int .i64 (a0.f0.length : Int))] rfl (fun U J => (rv_i h348 (r_convI uu3 uu31 rfl (J.ev rfl)) : RunV _ _ _ _ (.int .u64 x347))), trivial⟩ ⟨et [(33, (pP g1)), (39, .int .u64 x347)] rfl (fun U J K hK => ?_), trivial⟩
     replace X := SH.pure_ h358 X
     replace X := X.pk 2
     replace X := obj106_mk (x := y349.2) X
     obtain ⟨y375, h376, G⟩ := bnd G
     rcases y375 with y375 | y375
     rotate_left
     ·replace G := sum_r G
      refine z_callp' (vs := #[.pointer (some ⟨g1, 0, none⟩), .int .u64 x347]) en58 J (RetS.rf (F_column_Reader_Uint (L := blk g374 41 [.int .i64 0, .int .i64 0, .int .u64 0, .int .u64 0, .int .i64 0, .int .i64 0, str [], str []] :: blk g0 83 [.slice A100 n101 c102, .int .i64 x122, .slice A161 n162 c163] :: own k41 41 A161 n162 c163 l167 :: L) y349.2 x347 g1 h376 (qz + 3) hZ X)) (fun w hR => ?_) rfl
      replace X := hR
      obtain ⟨A377, n378, c379, X⟩ := obj106_open X
      obtain ⟨h380, X⟩ := (X.pk 1).unpure
      replace X := SH.pure_ h106 X
      replace X := X.pk 4 |>.pk 4
      replace X := obj83_mk (x := (⟨a0.f0, x122, l167⟩ : S83)) X
      replace X := SH.pure_ h380 X
      replace X := X.pk 2
      replace X := obj106_mk (x := y375) X
      replace X := X.drop 2 |>.pk 1
      cases G
      have ht := T152_ _ rfl
      subst ht
      replace G := hR152
      replace G : some (.inr ((⟨a0.f0, x122, l167⟩ : S83), y375)) = some y := G
      cases G
      exact hQp _ rfl _ _ J.defers X
     replace G := sum_l G
     refine z_callw' (vs := #[.pointer (some ⟨g1, 0, none⟩), .int .u64 x347]) en58 J (RetS.lf (F_column_Reader_Uint (L := blk g374 41 [.int .i64 0, .int .i64 0, .int .u64 0, .int .u64 0, .int .i64 0, .int .i64 0, str [], str []] :: blk g0 83 [.slice A100 n101 c102, .int .i64 x122, .slice A161 n162 c163] :: own k41 41 A161 n162 c163 l167 :: L) y349.2 x347 g1 h376 (qz + 3) hZ X)) (fun v w hR => ?_) rfl
     obtain ⟨rfl, X⟩ := hR
     obtain ⟨A381, n382, c383, X⟩ := obj106_open X
     obtain ⟨h384, X⟩ := (X.pk 1).unpure
     obtain ⟨x385, h386, G⟩ := ltt_ G
     refine hK _ [(11, .int .i64 x385), (12, .agg #[.int .i64 x359, .int .i64 x385, .int .u64 0, .int .u64 0, .int .i64 0, .int .i64 0, str [], str []])] _ rfl ?_
     refine dF [2, 11, 12] [14] (by kernel_rfl) ⟨pt [(31, .int .u64 y349.1)] rfl (fun U J => (rv_i h360 (r_convI uu31 uu3 rfl (J.ev rfl)) : RunV _ _ _ _ (.int .i64 x359))), pt [(40, .int .u64 y375.1)] rfl (fun U J => (rv_i h386 (r_convI uu31 uu3 rfl (J.ev rfl)) : RunV _ _ _ _ (.int .i64 x385))), pt [(32, .int .i64 x359), (41, .int .i64 x385)] rfl (fun U J => (r_build (ps := #[(0, .int .i64 x359), (1, .int .i64 x385)]) rfl (mapev2 J rfl) (fun w => by kernel_rfl) : RunV _ _ _ _ (.agg #[.int .i64 x359, .int .i64 x385, .int .u64 0, .int .u64 0, .int .i64 0, .int .i64 0, str [], str []]))), trivial⟩ ⟨et [(6, (pP g374)), (42, .agg #[.int .i64 x359, .int .i64 x385, .int .u64 0, .int .u64 0, .int .i64 0, .int .i64 0, str [], str []])] rfl (fun U J K hK => ?_), trivial⟩
     refine z_stb' 1 sz41 J X rfl (fun  w X => ?_) rfl
     refine hK _ [] _ rfl ?_
     refine dEnd [] (by kernel_rfl) trivial ⟨by kernel_rfl, by kernel_rfl⟩ [(0, (pP g0)), (1, (pP g1)), (5, .int .u64 x169), (6, (pP g374)), (26, .int .u64 y125.1), (27, .int .u64 x169)] rfl (fun U J => ?_)
     replace X := X.pk 3 |>.pk 1 |>.pk 2 |>.pk 3
     exact hj2 y375.2.f0 x359 x385 G A381 n382 c383 g374 h384 U w (J.sub _ rfl) X
   ·refine et [] rfl (fun U J K hK => ?_)
    refine z_alloc' (cs := [.int .i64 0, .int .i64 0, .int .u64 0, .int .u64 0, .int .i64 0, .int .i64 0, str [], str []]) zr41 J X (fun g387 w X => ?_) rfl
    refine hK _ [] _ rfl ?_
    refine dF [0, 3, 4, 5, 6, 7, 8, 9] [1] (by kernel_rfl) ⟨pm rfl, pm rfl, pm rfl, pt [(34, (pP g0))] rfl (fun U J => r_nilCheck rfl (J.ev rfl)), pt [(35, (pP g0))] rfl (fun U J => y_fab fa83_0 J rfl rfl), pt [(36, (pP g0))] rfl (fun U J => y_ld uu24 (X.cell 1 rfl 0 _ rfl) J rfl rfl rfl), pt [(37, .slice A100 n101 c102)] rfl (fun U J => y_len uu24 (X.rdl 4 (h106.rdl qz hZ) rfl).2.1 J rfl rfl), pt [(38, .int .i64 (a0.f0.length : Int))] rfl (fun U J => (rv_i h348 (r_convI uu3 uu31 rfl (J.ev rfl)) : RunV _ _ _ _ (.int .u64 x347))), trivial⟩ ⟨et [(30, (pP g1))] rfl (fun U J K hK => ?_), trivial⟩
    replace X := SH.pure_ h170 X
    replace X := X.pk 3
    replace X := obj106_mk (x := (⟨l168⟩ : S106)) X
    obtain ⟨y388, h389, G⟩ := bnd G
    rcases y388 with y388 | y388
    rotate_left
    ·replace G := sum_r G
     refine z_callp' (vs := #[.pointer (some ⟨g1, 0, none⟩), .int .u64 64]) en58 J (RetS.rf (F_column_Reader_Uint (L := blk g387 41 [.int .i64 0, .int .i64 0, .int .u64 0, .int .u64 0, .int .i64 0, .int .i64 0, str [], str []] :: blk g0 83 [.slice A100 n101 c102, .int .i64 x122, .slice A161 n162 c163] :: own k41 41 A161 n162 c163 l167 :: L) (⟨l168⟩ : S106) 64 g1 h389 (qz + 3) hZ X)) (fun w hR => ?_) rfl
     replace X := hR
     obtain ⟨A390, n391, c392, X⟩ := obj106_open X
     obtain ⟨h393, X⟩ := (X.pk 1).unpure
     replace X := SH.pure_ h106 X
     replace X := X.pk 4 |>.pk 4
     replace X := obj83_mk (x := (⟨a0.f0, x122, l167⟩ : S83)) X
     replace X := SH.pure_ h393 X
     replace X := X.pk 2
     replace X := obj106_mk (x := y388) X
     replace X := X.drop 2 |>.pk 1
     cases G
     have ht := T152_ _ rfl
     subst ht
     replace G := hR152
     replace G : some (.inr ((⟨a0.f0, x122, l167⟩ : S83), y388)) = some y := G
     cases G
     exact hQp _ rfl _ _ J.defers X
    replace G := sum_l G
    refine z_callw' (vs := #[.pointer (some ⟨g1, 0, none⟩), .int .u64 64]) en58 J (RetS.lf (F_column_Reader_Uint (L := blk g387 41 [.int .i64 0, .int .i64 0, .int .u64 0, .int .u64 0, .int .i64 0, .int .i64 0, str [], str []] :: blk g0 83 [.slice A100 n101 c102, .int .i64 x122, .slice A161 n162 c163] :: own k41 41 A161 n162 c163 l167 :: L) (⟨l168⟩ : S106) 64 g1 h389 (qz + 3) hZ X)) (fun v w hR => ?_) rfl
    obtain ⟨rfl, X⟩ := hR
    obtain ⟨A394, n395, c396, X⟩ := obj106_open X
    obtain ⟨h397, X⟩ := (X.pk 1).unpure
    obtain ⟨x398, h399, G⟩ := ltt_ G
    refine hK _ [(2, .int .i64 x398)] _ rfl ?_
    refine dF [2, 3, 4, 5, 6, 7, 8, 9] [10] (by kernel_rfl) ⟨pt [(31, .int .u64 y388.1)] rfl (fun U J => (rv_i h399 (r_convI uu31 uu3 rfl (J.ev rfl)) : RunV _ _ _ _ (.int .i64 x398))), pm rfl, pm rfl, pt [(34, (pP g0))] rfl (fun U J => r_nilCheck rfl (J.ev rfl)), pt [(35, (pP g0))] rfl (fun U J => y_fab fa83_0 J rfl rfl), pt [(36, (pP g0))] rfl (fun U J => y_ld uu24 (X.cell 2 rfl 0 _ rfl) J rfl rfl rfl), pt [(37, .slice A100 n101 c102)] rfl (fun U J => y_len uu24 (X.rdl 4 (h106.rdl qz hZ) rfl).2.1 J rfl rfl), pt [(38, .int .i64 (a0.f0.length : Int))] rfl (fun U J => (rv_i h348 (r_convI uu3 uu31 rfl (J.ev rfl)) : RunV _ _ _ _ (.int .u64 x347))), trivial⟩ ⟨et [(33, (pP g1)), (39, .int .u64 x347)] rfl (fun U J K hK => ?_), trivial⟩
    replace X := SH.pure_ h397 X
    replace X := X.pk 1
    replace X := obj106_mk (x := y388.2) X
    obtain ⟨y400, h401, G⟩ := bnd G
    rcases y400 with y400 | y400
    rotate_left
    ·replace G := sum_r G
     refine z_callp' (vs := #[.pointer (some ⟨g1, 0, none⟩), .int .u64 x347]) en58 J (RetS.rf (F_column_Reader_Uint (L := blk g387 41 [.int .i64 0, .int .i64 0, .int .u64 0, .int .u64 0, .int .i64 0, .int .i64 0, str [], str []] :: blk g0 83 [.slice A100 n101 c102, .int .i64 x122, .slice A161 n162 c163] :: own k41 41 A161 n162 c163 l167 :: L) y388.2 x347 g1 h401 (qz + 3) hZ X)) (fun w hR => ?_) rfl
     replace X := hR
     obtain ⟨A402, n403, c404, X⟩ := obj106_open X
     obtain ⟨h405, X⟩ := (X.pk 1).unpure
     replace X := SH.pure_ h106 X
     replace X := X.pk 4 |>.pk 4
     replace X := obj83_mk (x := (⟨a0.f0, x122, l167⟩ : S83)) X
     replace X := SH.pure_ h405 X
     replace X := X.pk 2
     replace X := obj106_mk (x := y400) X
     replace X := X.drop 2 |>.pk 1
     cases G
     have ht := T152_ _ rfl
     subst ht
     replace G := hR152
     replace G : some (.inr ((⟨a0.f0, x122, l167⟩ : S83), y400)) = some y := G
     cases G
     exact hQp _ rfl _ _ J.defers X
    replace G := sum_l G
    refine z_callw' (vs := #[.pointer (some ⟨g1, 0, none⟩), .int .u64 x347]) en58 J (RetS.lf (F_column_Reader_Uint (L := blk g387 41 [.int .i64 0, .int .i64 0, .int .u64 0, .int .u64 0, .int .i64 0, .int .i64 0, str [], str []] :: blk g0 83 [.slice A100 n101 c102, .int .i64 x122, .slice A161 n162 c163] :: own k41 41 A161 n162 c163 l167 :: L) y388.2 x347 g1 h401 (qz + 3) hZ X)) (fun v w hR => ?_) rfl
    obtain ⟨rfl, X⟩ := hR
    obtain ⟨A406, n407, c408, X⟩ := obj106_open X
    obtain ⟨h409, X⟩ := (X.pk 1).unpure
    obtain ⟨x410, h411, G⟩ := ltt_ G
    refine hK _ [(11, .int .i64 x410), (12, .agg #[.int .i64 x398, .int .i64 x410, .int .u64 0, .int .u64 0, .int .i64 0, .int .i64 0, str [], str []])] _ rfl ?_
    refine dF [2, 11, 12] [14] (by kernel_rfl) ⟨pt [(31, .int .u64 y388.1)] rfl (fun U J => (rv_i h399 (r_convI uu31 uu3 rfl (J.ev rfl)) : RunV _ _ _ _ (.int .i64 x398))), pt [(40, .int .u64 y400.1)] rfl (fun U J => (rv_i h411 (r_convI uu31 uu3 rfl (J.ev rfl)) : RunV _ _ _ _ (.int .i64 x410))), pt [(32, .int .i64 x398), (41, .int .i64 x410)] rfl (fun U J => (r_build (ps := #[(0, .int .i64 x398), (1, .int .i64 x410)]) rfl (mapev2 J rfl) (fun w => by kernel_rfl) : RunV _ _ _ _ (.agg #[.int .i64 x398, .int .i64 x410, .int .u64 0, .int .u64 0, .int .i64 0, .int .i64 0, str [], str []]))), trivial⟩ ⟨et [(6, (pP g387)), (42, .agg #[.int .i64 x398, .int .i64 x410, .int .u64 0, .int .u64 0, .int .i64 0, .int .i64 0, str [], str []])] rfl (fun U J K hK => ?_), trivial⟩
    refine z_stb' 1 sz41 J X rfl (fun  w X => ?_) rfl
    refine hK _ [] _ rfl ?_
    refine dEnd [] (by kernel_rfl) trivial ⟨by kernel_rfl, by kernel_rfl⟩ [(0, (pP g0)), (1, (pP g1)), (5, .int .u64 x169), (6, (pP g387)), (26, .int .u64 y125.1), (27, .int .u64 x169)] rfl (fun U J => ?_)
    replace X := X.pk 3 |>.pk 1 |>.pk 2 |>.pk 3
    exact hj2 y400.2.f0 x398 x410 G A406 n407 c408 g387 h409 U w (J.sub _ rfl) X
  replace G := iff' hb173 G
  refine wp_exit ?_
  cases G
  exact hx152_0 l167 l168 (T152_ _ rfl) A161 n162 c163 A164 n165 c166 h170 U w (J.sub _ rfl) X
 refine wp_reg ?_
 refine x_m J rfl fun U J => ?_
 refine x_m J rfl fun U J => ?_
 refine x_v J (r_nilCheck rfl (J.ev rfl)) rfl fun U J => ?_
 refine x_fab' fa83_1 J (fun U J => ?_) rfl
 refine x_ld' uu3 (X.cell 1 rfl 1 _ rfl) J (fun U J => ?_) rfl
 refine x_v J (r_gtI rfl (J.ev rfl) (J.ev rfl)) rfl fun U J => ?_
 refine x_m J rfl fun U J => ?_
 refine bcase (b := decide (0 < x122)) (fun hb412 => ?_) fun hb412 => ?_
 ·replace G := ift hb412 G
  refine x_on' hb412 J ?_ rfl
  refine x_m J rfl fun U J => ?_
  refine x_on' hb412 J ?_ rfl
  refine x_v J (r_gtI rfl (J.ev rfl) (J.ev rfl)) rfl fun U J => ?_
  refine x_pickt' hb412 J (fun U J => ?_) rfl
  replace X := SH.pure_ h134 X
  replace X := X.pk 1
  replace X := obj106_mk (x := y125.2) X
  obtain ⟨y413, h414, G⟩ := bnd G
  rcases y413 with y413 | y413
  rotate_left
  ·replace G := sum_r G
   refine x_callp' (vs := #[.pointer (some ⟨g1, 0, none⟩), .bool (decide (0 < y125.1))]) en59 J (RetS.rf (F_column_Reader_Check (L := blk g0 83 [.slice A100 n101 c102, .int .i64 x122, .slice A103 n104 c105] :: own k41 41 A103 n104 c105 a0.f2 :: L) y125.2 (decide (0 < y125.1)) g1 h414 (qz + 2) hZ X)) (fun w hR => ?_) rfl
   replace X := hR
   obtain ⟨A415, n416, c417, X⟩ := obj106_open X
   obtain ⟨h418, X⟩ := (X.pk 1).unpure
   replace X := SH.pure_ h106 X
   replace X := X.pk 3 |>.pk 3
   replace X := obj83_mk (x := (⟨a0.f0, x122, a0.f2⟩ : S83)) X
   replace X := SH.pure_ h418 X
   replace X := X.pk 2
   replace X := obj106_mk (x := y413) X
   replace X := X.pk 1
   cases G
   exact hQp _ rfl _ _ J.defers X
  replace G := sum_l G
  refine x_callw' (vs := #[.pointer (some ⟨g1, 0, none⟩), .bool (decide (0 < y125.1))]) en59 J (RetS.lf (F_column_Reader_Check (L := blk g0 83 [.slice A100 n101 c102, .int .i64 x122, .slice A103 n104 c105] :: own k41 41 A103 n104 c105 a0.f2 :: L) y125.2 (decide (0 < y125.1)) g1 h414 (qz + 2) hZ X)) (fun v U w hR J => ?_) rfl
  obtain ⟨rfl, X⟩ := hR
  obtain ⟨A419, n420, c421, X⟩ := obj106_open X
  obtain ⟨h422, X⟩ := (X.pk 1).unpure
  refine wpList_nil ?_
  replace X := X.pk 2 |>.pk 1 |>.pk 2
  exact hj1 y413.f0 G A419 n420 c421 h422 U w (J.sub _ rfl) X
 replace G := iff' hb412 G
 refine xO 2 hb412 J rfl fun U J => ?_
 refine x_pickf' hb412 J (fun U J => ?_) rfl
 replace X := SH.pure_ h134 X
 replace X := X.pk 1
 replace X := obj106_mk (x := y125.2) X
 obtain ⟨y423, h424, G⟩ := bnd G
 rcases y423 with y423 | y423
 rotate_left
 ·replace G := sum_r G
  refine x_callp' (vs := #[.pointer (some ⟨g1, 0, none⟩), .bool false]) en59 J (RetS.rf (F_column_Reader_Check (L := blk g0 83 [.slice A100 n101 c102, .int .i64 x122, .slice A103 n104 c105] :: own k41 41 A103 n104 c105 a0.f2 :: L) y125.2 false g1 h424 (qz + 2) hZ X)) (fun w hR => ?_) rfl
  replace X := hR
  obtain ⟨A425, n426, c427, X⟩ := obj106_open X
  obtain ⟨h428, X⟩ := (X.pk 1).unpure
  replace X := SH.pure_ h106 X
  replace X := X.pk 3 |>.pk 3
  replace X := obj83_mk (x := (⟨a0.f0, x122, a0.f2⟩ : S83)) X
  replace X := SH.pure_ h428 X
  replace X := X.pk 2
  replace X := obj106_mk (x := y423) X
  replace X := X.pk 1
  cases G
  exact hQp _ rfl _ _ J.defers X
 replace G := sum_l G
 refine x_callw' (vs := #[.pointer (some ⟨g1, 0, none⟩), .bool false]) en59 J (RetS.lf (F_column_Reader_Check (L := blk g0 83 [.slice A100 n101 c102, .int .i64 x122, .slice A103 n104 c105] :: own k41 41 A103 n104 c105 a0.f2 :: L) y125.2 false g1 h424 (qz + 2) hZ X)) (fun v U w hR J => ?_) rfl
 obtain ⟨rfl, X⟩ := hR
 obtain ⟨A429, n430, c431, X⟩ := obj106_open X
 obtain ⟨h432, X⟩ := (X.pk 1).unpure
 refine wpList_nil ?_
 replace X := X.pk 2 |>.pk 1 |>.pk 2
 exact hj1 y423.f0 G A429 n430 c431 h432 U w (J.sub _ rfl) X
theorem F_Try_segment_Segment_foot {r : World} {L : List HP} {w : World} {Z : Nat → Prop} {wz : World} (a0 : (List Int)) (a60 : S83) (A0 : Option Addr) (n0 : Nat) (c0 : Nat) (g60 : Nat) {y : (Bool × S83)} (G : Try_segment_Segment_foot a0 a60 = some y) (qz : Nat) (hZ : L[qz]? = some (zone Z wz)) (ha0 : Imm Z wz (kI .u8) A0 n0 c0 a0) (X : SH r (obj83 Z wz g60 a60 :: L) w) :
  Ret Tryd.prog 39 #[.slice A0 n0 c0, .func (.func 40) #[.pointer (some ⟨g60, 0, none⟩)] #[]] w fun v w' => v = .bool y.1 ∧ SH r (obj83 Z wz g60 y.2 :: L) w' := by
 obtain ⟨y', hy, G⟩ := bnd G
 refine Ret.mono_ (try_walk (R := fun v w' => v = .bool y.1 ∧ SH r (obj83 Z wz g60 y.2 :: L) w') en40 X (fun g g4 w1 hS1 => ?_)) (fun v w' h => h)
 replace hS1 := obj106_mk (x := ⟨a0⟩) (hS1.pk 1 |> fun h => (SH.pure_ ha0 (h.pk 1)).pk 1)
 replace hS1 := hS1.pk 1
 replace hS1 := hS1.pk 2
 replace hS1 := hS1.pk 2
 replace hS1 := hS1.pk 1
 rcases y' with y' | y'
 ·replace G := sum_l G
  cases G
  left
  refine Ret.mono_ (RetS.lf (F_segment_Segment_foot (L := blk g4 4 [.bool false] :: L) a60 (⟨a0⟩ : S106) g60 g hy (qz + 1) hZ hS1)) ?_
  rintro v w2 ⟨rfl, X⟩
  replace X := X.pk 1 |>.pk 2 |>.pk 1
  obtain ⟨A', n', c', X⟩ := obj106_open X
  have hQ := SH.unpure (X.pk 1)
  clear X
  obtain ⟨hi, X⟩ := hQ
  refine ⟨_, A', n', c', X, fun w3 h3 => ⟨?_, h3⟩⟩
  rw [← hi.ln]
 ·replace G := sum_r G
  cases G
  right
  refine Calls.mono (RetS.rf (F_segment_Segment_foot (L := blk g4 4 [.bool false] :: L) a60 (⟨a0⟩ : S106) g60 g hy (qz + 1) hZ hS1)) ?_
  rintro e w2 ⟨rfl, X⟩
  replace X := X.pk 1 |>.pk 2 |>.drop 1
  exact ⟨rfl, _, X, fun w3 h3 => ⟨rfl, h3⟩⟩
theorem F_segment_Open {r : World} {L : List HP} {w : World} {Z : Nat → Prop} {wz : World} (a0 : (List Int)) (A0 : Option Addr) (n0 : Nat) (c0 : Nat) {y : ((Option S83) × Int)} (G : segment_Open a0 = some y) (ha0 : Imm Z wz (kI .u8) A0 n0 c0 a0) (hG0 : Imm Z wz (kI .u32) (some ⟨0, 0, none⟩) 16 16 gl_page_table) (X : SH r (zone Z wz :: L) w) :
  Ret Tryd.prog 14 #[.slice A0 n0 c0] w fun v w' => ∃ (Z' : Nat → Prop) (wz' : World) (p0 : Option Addr), v = .tuple #[(.pointer p0), (.int .i64 y.2)] ∧ Sub Z wz Z' wz' ∧ SH r (optP (obj83 Z' wz') p0 y.1 :: zone Z' wz' :: L) w' := by
 refine enter Tryd.func14 rfl Tryd.ntmps14 [(0, .slice A0 n0 c0)] rfl (by simp) ?_
 intro U J Qf hQ hQn
 unfold segment_Open at G
 refine ws fun K100 hK100 => ?_
 refine x_m J rfl fun U J => ?_
 refine x_m J rfl fun U J => ?_
 refine wn (hK100 _ _ ?_)
 refine wp_seq_k fun K101 hK101 => ?_
 refine ws fun K102 hK102 => ?_
 refine x_m J rfl fun U J => ?_
 refine x_len' uu24 (X.imm 0 ha0 rfl).2.1 J (fun U J => ?_) rfl
 refine x_v J (r_ltI rfl (J.ev rfl) (J.ev rfl)) rfl fun U J => ?_
 refine wn (hK102 _ _ ?_)
 refine c_if J rfl (fun hb103 => ?_) fun hb103 => ?_
 ·replace G := ift hb103 G
  refine ws fun K104 hK104 => ?_
  refine x_m J rfl fun U J => ?_
  refine x_m J rfl fun U J => ?_
  refine wn (hK104 _ _ ?_)
  refine wp_ret ?_
  replace X := SH.optN (obj83 Z wz) X
  replace X := X.pk 1 |>.pk 1
  cases G
  refine hQ _ _ ?_
  refine lv2 Tryd.results14 J rfl rfl ?_
  exact ⟨Z, wz, none, rfl, (Sub.refl _ _), X⟩
 replace G := iff' hb103 G
 refine wp_skip ?_
 refine hK101 _ _ ?_
 refine ws fun K105 hK105 => ?_
 refine x_m J rfl fun U J => ?_
 refine x_m J rfl fun U J => ?_
 refine x_len' uu24 (X.imm 0 ha0 rfl).2.1 J (fun U J => ?_) rfl
 obtain ⟨x106, h107, G⟩ := ltt_ G
 refine x_v (v := .int .i64 x106) J (rv_i h107 (r_sub rfl (J.ev rfl) (J.ev rfl))) rfl fun U J => ?_
 obtain ⟨y108, h109, G⟩ := bnd G
 refine x_call' en37 J (F_page_Read (L := zone Z wz :: L) a0 x106 A0 n0 c0 h109 0 rfl ha0 hG0 X) (fun v U w hR J => ?_) rfl
 obtain ⟨B110, m111, d112, rfl, X⟩ := hR
 refine x_m J rfl fun U J => ?_
 refine x_v J (r_extract rfl (J.ev rfl) rfl) rfl fun U J => ?_
 refine x_v J (r_extract rfl (J.ev rfl) rfl) rfl fun U J => ?_
 refine x_v J (r_extract rfl (J.ev rfl) rfl) rfl fun U J => ?_
 refine x_v J (r_extract rfl (J.ev rfl) rfl) rfl fun U J => ?_
 refine x_m J rfl fun U J => ?_
 refine x_m J rfl fun U J => ?_
 refine x_m J rfl fun U J => ?_
 refine x_m J rfl fun U J => ?_
 refine wn (hK105 _ _ ?_)
 refine wp_seq_k fun K113 hK113 => ?_
 refine ws fun K114 hK114 => ?_
 refine x_m J rfl fun U J => ?_
 refine x_v J (r_neI rfl (J.ev rfl) (J.ev rfl)) rfl fun U J => ?_
 refine wn (hK114 _ _ ?_)
 refine c_if J rfl (fun hb115 => ?_) fun hb115 => ?_
 ·replace G := ift hb115 G
  refine ws fun K116 hK116 => ?_
  refine x_m J rfl fun U J => ?_
  refine x_m J rfl fun U J => ?_
  refine x_m J rfl fun U J => ?_
  refine wn (hK116 _ _ ?_)
  refine wp_ret ?_
  replace X := SH.optN (obj83 Z wz) X
  replace X := X.drop 1 |>.pk 1 |>.pk 1
  cases G
  refine hQ _ _ ?_
  refine lv2 Tryd.results14 J rfl rfl ?_
  exact ⟨Z, wz, none, rfl, (Sub.refl _ _), X⟩
 replace G := iff' hb115 G
 refine wp_skip ?_
 refine hK113 _ _ ?_
 refine wp_seq_k fun K117 hK117 => ?_
 refine wp_seq_k fun K118 hK118 => ?_
 have hj1 : ∀ (b119 : Bool), segment_Open_j1 a0 y108 b119 = some y → ∀ (U : Act) (w : World), FR 100 [] U [(0, .slice A0 n0 c0), (5, .slice B110 m111 d112), (38, .bool b119)] → SH r (own (kI .u8) 5 B110 m111 d112 y108.2.1 :: zone Z wz :: L) w → K118 U w := by
  intro b119 G U w J X
  unfold segment_Open_j1 at G
  refine hK118 _ _ ?_
  refine c_if J rfl (fun hb120 => ?_) fun hb120 => ?_
  ·replace G := ift hb120 G
   refine ws fun K121 hK121 => ?_
   refine x_m J rfl fun U J => ?_
   refine x_m J rfl fun U J => ?_
   refine wn (hK121 _ _ ?_)
   refine wp_ret ?_
   replace X := SH.optN (obj83 Z wz) X
   replace X := X.drop 1 |>.pk 1 |>.pk 1
   cases G
   refine hQ _ _ ?_
   refine lv2 Tryd.results14 J rfl rfl ?_
   exact ⟨Z, wz, none, rfl, (Sub.refl _ _), X⟩
  replace G := iff' hb120 G
  refine wp_skip ?_
  refine hK117 _ _ ?_
  refine wp_seq_k fun K122 hK122 => ?_
  refine wp_draw [0, 1, 3, 7, 0, 16, 48, 112, 240, 511, 0, 1024, 3072, 7168, 15360, 32767, 0, 65536, 196608, 458752, 983040, 2097151, 4194303] [] rfl J X (by kernel_rfl) (by kernel_rfl) (by kernel_rfl) (by kernel_rfl) fun w X => ?_
  obtain ⟨x123, h124, G⟩ := bnd G
  obtain ⟨cs, hV, hc125⟩ := el (X.rd 0 rfl) h124
  obtain rfl := hV
  obtain ⟨x126, h127, G⟩ := ltt_ G
  obtain ⟨x128, h129, G⟩ := bnd G
  obtain ⟨cs, hV, hc130⟩ := el (X.rd 0 rfl) h129
  obtain rfl := hV
  obtain ⟨x131, h132, G⟩ := ltt_ G
  obtain ⟨x133, h134, G⟩ := ltt_ G
  obtain ⟨x135, h136, G⟩ := ltt_ G
  obtain ⟨x137, h138, G⟩ := bnd G
  obtain ⟨cs, hV, hc139⟩ := el (X.rd 0 rfl) h138
  obtain rfl := hV
  obtain ⟨x140, h141, G⟩ := ltt_ G
  obtain ⟨x142, h143, G⟩ := ltt_ G
  obtain ⟨x144, h145, G⟩ := ltt_ G
  obtain ⟨x146, h147, G⟩ := bnd G
  obtain ⟨cs, hV, hc148⟩ := el (X.rd 0 rfl) h147
  obtain rfl := hV
  obtain ⟨x149, h150, G⟩ := ltt_ G
  obtain ⟨x151, h152, G⟩ := ltt_ G
  obtain ⟨x153, h154, G⟩ := ltt_ G
  refine ⟨[(0, .slice B110 m111 d112), (1, .pointer (some (ea B110 ((0 : Int).toNat * 1)))), (2, .int .u8 x123), (3, .int .i64 x126), (4, .slice B110 m111 d112), (5, .pointer (some (ea B110 ((1 : Int).toNat * 1)))), (6, .int .u8 x128), (7, .int .i64 x131), (8, .int .i64 x133), (9, .int .i64 x135), (10, .slice B110 m111 d112), (11, .pointer (some (ea B110 ((2 : Int).toNat * 1)))), (12, .int .u8 x137), (13, .int .i64 x140), (14, .int .i64 x142), (15, .int .i64 x144), (16, .slice B110 m111 d112), (17, .pointer (some (ea B110 ((3 : Int).toNat * 1)))), (18, .int .u8 x146), (19, .int .i64 x149), (20, .int .i64 x151), (21, .int .i64 x153), (22, .int .i64 x153)], ?_⟩
  refine dEnd [0, 1, 2, 3, 4, 5, 6, 7, 8, 9, 10, 11, 12, 13, 14, 15, 16, 17, 18, 19, 20, 21, 22] (by kernel_rfl) ⟨pm rfl, pt [(39, .slice B110 m111 d112)] rfl (fun U J => y_ia uu24 sz5 (X.rd 0 rfl) h124 J rfl rfl rfl), pt [(40, .pointer (some (ea B110 ((0 : Int).toNat * 1))))] rfl (fun U J => y_ld uu5 (hc125 0 _ rfl) J rfl rfl rfl), pt [(41, .int .u8 x123)] rfl (fun U J => (rv_i h127 (r_convI uu5 uu3 rfl (J.ev rfl)) : RunV _ _ _ _ (.int .i64 x126))), pm rfl, pt [(43, .slice B110 m111 d112)] rfl (fun U J => y_ia uu24 sz5 (X.rd 0 rfl) h129 J rfl rfl rfl), pt [(44, .pointer (some (ea B110 ((1 : Int).toNat * 1))))] rfl (fun U J => y_ld uu5 (hc130 0 _ rfl) J rfl rfl rfl), pt [(45, .int .u8 x128)] rfl (fun U J => (rv_i h132 (r_convI uu5 uu3 rfl (J.ev rfl)) : RunV _ _ _ _ (.int .i64 x131))), pt [(46, .int .i64 x131)] rfl (fun U J => (rv_i h134 (r_shl rfl (J.ev rfl) (J.ev rfl) (by decide)) : RunV _ _ _ _ (.int .i64 x133))), pt [(42, .int .i64 x126), (47, .int .i64 x133)] rfl (fun U J => (rv_i h136 (r_or rfl (J.ev rfl) (J.ev rfl)) : RunV _ _ _ _ (.int .i64 x135))), pm rfl, pt [(49, .slice B110 m111 d112)] rfl (fun U J => y_ia uu24 sz5 (X.rd 0 rfl) h138 J rfl rfl rfl), pt [(50, .pointer (some (ea B110 ((2 : Int).toNat * 1))))] rfl (fun U J => y_ld uu5 (hc139 0 _ rfl) J rfl rfl rfl), pt [(51, .int .u8 x137)] rfl (fun U J => (rv_i h141 (r_convI uu5 uu3 rfl (J.ev rfl)) : RunV _ _ _ _ (.int .i64 x140))), pt [(52, .int .i64 x140)] rfl (fun U J => (rv_i h143 (r_shl rfl (J.ev rfl) (J.ev rfl) (by decide)) : RunV _ _ _ _ (.int .i64 x142))), pt [(48, .int .i64 x135), (53, .int .i64 x142)] rfl (fun U J => (rv_i h145 (r_or rfl (J.ev rfl) (J.ev rfl)) : RunV _ _ _ _ (.int .i64 x144))), pm rfl, pt [(55, .slice B110 m111 d112)] rfl (fun U J => y_ia uu24 sz5 (X.rd 0 rfl) h147 J rfl rfl rfl), pt [(56, .pointer (some (ea B110 ((3 : Int).toNat * 1))))] rfl (fun U J => y_ld uu5 (hc148 0 _ rfl) J rfl rfl rfl), pt [(57, .int .u8 x146)] rfl (fun U J => (rv_i h150 (r_convI uu5 uu3 rfl (J.ev rfl)) : RunV _ _ _ _ (.int .i64 x149))), pt [(58, .int .i64 x149)] rfl (fun U J => (rv_i h152 (r_shl rfl (J.ev rfl) (J.ev rfl) (by decide)) : RunV _ _ _ _ (.int .i64 x151))), pt [(54, .int .i64 x144), (59, .int .i64 x151)] rfl (fun U J => (rv_i h154 (r_or rfl (J.ev rfl) (J.ev rfl)) : RunV _ _ _ _ (.int .i64 x153))), pm rfl, trivial⟩ ⟨by kernel_rfl, by kernel_rfl⟩ [(0, .slice A0 n0 c0), (8, .int .i64 x153)] rfl (fun U J => ?_)
  refine hK122 _ _ ?_
  refine wp_seq_k fun K155 hK155 => ?_
  refine ws fun K156 hK156 => ?_
  refine x_m J rfl fun U J => ?_
  refine x_m J rfl fun U J => ?_
  refine x_len' uu24 (X.imm 1 ha0 rfl).2.1 J (fun U J => ?_) rfl
  obtain ⟨x157, h158, G⟩ := ltt_ G
  refine x_v (v := .int .i64 x157) J (rv_i h158 (r_sub rfl (J.ev rfl) (J.ev rfl))) rfl fun U J => ?_
  refine x_v J (r_gtI rfl (J.ev rfl) (J.ev rfl)) rfl fun U J => ?_
  refine wn (hK156 _ _ ?_)
  refine c_if J rfl (fun hb159 => ?_) fun hb159 => ?_
  ·replace G := ift hb159 G
   refine ws fun K160 hK160 => ?_
   refine x_m J rfl fun U J => ?_
   refine x_m J rfl fun U J => ?_
   refine wn (hK160 _ _ ?_)
   refine wp_ret ?_
   replace X := SH.optN (obj83 Z wz) X
   replace X := X.drop 1 |>.pk 1 |>.pk 1
   cases G
   refine hQ _ _ ?_
   refine lv2 Tryd.results14 J rfl rfl ?_
   exact ⟨Z, wz, none, rfl, (Sub.refl _ _), X⟩
  replace G := iff' hb159 G
  refine wp_skip ?_
  refine hK155 _ _ ?_
  refine ws fun K161 hK161 => ?_
  refine x_m J rfl fun U J => ?_
  refine x_m J rfl fun U J => ?_
  obtain ⟨y162, h163, G⟩ := bnd G
  refine x_call' en37 J (F_page_Read (L := own (kI .u8) 5 B110 m111 d112 y108.2.1 :: zone Z wz :: L) a0 x153 A0 n0 c0 h163 1 rfl ha0 hG0 X) (fun v U w hR J => ?_) rfl
  obtain ⟨B164, m165, d166, rfl, X⟩ := hR
  refine x_m J rfl fun U J => ?_
  refine x_v J (r_extract rfl (J.ev rfl) rfl) rfl fun U J => ?_
  refine x_v J (r_extract rfl (J.ev rfl) rfl) rfl fun U J => ?_
  refine x_v J (r_extract rfl (J.ev rfl) rfl) rfl fun U J => ?_
  refine x_v J (r_extract rfl (J.ev rfl) rfl) rfl fun U J => ?_
  refine x_m J rfl fun U J => ?_
  refine x_m J rfl fun U J => ?_
  refine x_m J rfl fun U J => ?_
  refine x_m J rfl fun U J => ?_
  refine wn (hK161 _ _ ?_)
  refine wp_seq_k fun K167 hK167 => ?_
  refine ws fun K168 hK168 => ?_
  refine x_m J rfl fun U J => ?_
  refine x_v J (r_neI rfl (J.ev rfl) (J.ev rfl)) rfl fun U J => ?_
  refine wn (hK168 _ _ ?_)
  refine c_if J rfl (fun hb169 => ?_) fun hb169 => ?_
  ·replace G := ift hb169 G
   refine ws fun K170 hK170 => ?_
   refine x_m J rfl fun U J => ?_
   refine x_m J rfl fun U J => ?_
   refine x_m J rfl fun U J => ?_
   refine wn (hK170 _ _ ?_)
   refine wp_ret ?_
   replace X := SH.optN (obj83 Z wz) X
   replace X := X.drop 1 |>.drop 1 |>.pk 1 |>.pk 1
   cases G
   refine hQ _ _ ?_
   refine lv2 Tryd.results14 J rfl rfl ?_
   exact ⟨Z, wz, none, rfl, (Sub.refl _ _), X⟩
  replace G := iff' hb169 G
  refine wp_skip ?_
  refine hK167 _ _ ?_
  refine ws fun K171 hK171 => ?_
  refine x_m J rfl fun U J => ?_
  refine x_m J rfl fun U J => ?_
  obtain ⟨l172, h173, G⟩ := bnd G
  obtain ⟨A174, n175, c176, e177, h178⟩ := imm_hc ha0 h173
  refine x_v (v := .slice A174 n175 c176) J (rv_e e177 (r_slice_h uu24 sz5 rfl (J.ev rfl) (J.ev rfl) (cutq (X.imm 2 ha0 rfl) h173).2.2.2.2.1 (cutq (X.imm 2 ha0 rfl) h173).2.2.1)) rfl fun U J => ?_
  obtain ⟨y179, h180, G⟩ := bnd G
  refine x_call' en38 J (F_slices_Clone_byte_byte (L := own (kI .u8) 5 B164 m165 d166 y162.2.1 :: own (kI .u8) 5 B110 m111 d112 y108.2.1 :: zone Z wz :: L) l172 A174 n175 c176 h180 (h178.rdl 2 rfl) X) (fun v U w hR J => ?_) rfl
  obtain ⟨B181, m182, d183, rfl, X⟩ := hR
  replace X := X.pk 3 |>.pk 1
  obtain ⟨Z184, wz185, X, h186, sb190⟩ := SH.freeze (n := m182) (c := d183) (A := B181) X
  have h187 := Imm.sub ha0 sb190
  have h188 := Imm.sub h178 sb190
  refine x_v (v := .agg #[.slice B181 m182 d183, .int .i64 0, .slice none 0 0]) J (r_build (ps := #[(0, .slice B181 m182 d183)]) rfl (mapev2 J rfl) (fun w => by kernel_rfl)) rfl fun U J => ?_
  refine x_box' J X (fun g189 U w X J => ?_) rfl
  refine x_m J rfl fun U J => ?_
  refine wn (hK171 _ _ ?_)
  refine wp_seq_k fun K190 hK190 => ?_
  refine wp_seq_k fun K191 hK191 => ?_
  have hj2 : ∀ (l192 : (List Int)) (x193 : Int) (l194 : (List S41)) (b195 : Bool), segment_Open_j2 l192 x193 l194 b195 = some y → ∀ (Z196 : Nat → Prop) (wz197 : World) (A198 : Option Addr) (n199 : Nat) (c200 : Nat) (A201 : Option Addr) (n202 : Nat) (c203 : Nat) (h204 : Sub Z wz Z196 wz197) (h205 : Imm Z196 wz197 (kI .u8) A198 n199 c200 l192) (U : Act) (w : World), FR 100 [] U [(9, (pP g189)), (98, .bool b195)] → SH r (blk g189 83 [.slice A198 n199 c200, .int .i64 x193, .slice A201 n202 c203] :: own k41 41 A201 n202 c203 l194 :: zone Z196 wz197 :: L) w → K191 U w := by
   intro l192 x193 l194 b195 G Z196 wz197 A198 n199 c200 A201 n202 c203 h204 h205 U w J X
   unfold segment_Open_j2 at G
   refine hK191 _ _ ?_
   refine c_if J rfl (fun hb206 => ?_) fun hb206 => ?_
   ·replace G := ift hb206 G
    refine ws fun K207 hK207 => ?_
    refine x_m J rfl fun U J => ?_
    refine x_m J rfl fun U J => ?_
    refine wn (hK207 _ _ ?_)
    refine wp_ret ?_
    replace X := SH.optN (obj83 Z196 wz197) X
    replace X := X.drop 1 |>.drop 1 |>.pk 1 |>.pk 1
    cases G
    refine hQ _ _ ?_
    refine lv2 Tryd.results14 J rfl rfl ?_
    exact ⟨Z196, wz197, none, rfl, h204, X⟩
   replace G := iff' hb206 G
   refine wp_skip ?_
   refine hK190 _ _ ?_
   refine ws fun K208 hK208 => ?_
   refine x_m J rfl fun U J => ?_
   refine x_m J rfl fun U J => ?_
   refine x_m J rfl fun U J => ?_
   refine wn (hK208 _ _ ?_)
   refine wp_ret ?_
   replace X := SH.pure_ h205 X
   replace X := X.pk 2 |>.pk 2
   replace X := obj83_mk (x := (⟨l192, x193, l194⟩ : S83)) X
   replace X := SH.optS X
   replace X := X.pk 1 |>.pk 1
   cases G
   refine hQ _ _ ?_
   refine lv2 Tryd.results14 J rfl rfl ?_
   exact ⟨Z196, wz197, some ⟨g189, 0, none⟩, rfl, h204, X⟩
  refine wp_reg ?_
  refine x_m J rfl fun U J => ?_
  refine x_v J (r_neI rfl (J.ev rfl) (J.ev rfl)) rfl fun U J => ?_
  refine x_m J rfl fun U J => ?_
  refine bcase (b := y162.1 != 102) (fun hb209 => ?_) fun hb209 => ?_
  ·replace G := ift hb209 G
   refine xO 5 hb209 J rfl fun U J => ?_
   refine x_pickt' hb209 J (fun U J => ?_) rfl
   refine x_m J rfl fun U J => ?_
   refine xO 5 rfl J rfl fun U J => ?_
   refine x_pickt' rfl J (fun U J => ?_) rfl
   refine wpList_nil ?_
   replace X := SH.nil_own (d := k41) (e := 41) X
   replace X := X.drop 3 |>.drop 3 |>.pk 2 |>.pk 1 |>.pk 2
   exact hj2 y179 0 [] true G Z184 wz185 B181 m182 d183 none 0 0 sb190 h186 U w (J.sub _ rfl) X
  replace G := iff' hb209 G
  refine x_on' hb209 J ?_ rfl
  refine x_m J rfl fun U J => ?_
  refine x_on' hb209 J ?_ rfl
  refine x_m J rfl fun U J => ?_
  refine x_on' hb209 J ?_ rfl
  refine x_len' uu24 (X.imm 1 h187 rfl).2.1 J (fun U J => ?_) rfl
  refine x_on' hb209 J ?_ rfl
  refine x_v (v := .int .i64 x157) J (rv_i h158 (r_sub rfl (J.ev rfl) (J.ev rfl))) rfl fun U J => ?_
  refine x_on' hb209 J ?_ rfl
  refine x_v J (r_neI rfl (J.ev rfl) (J.ev rfl)) rfl fun U J => ?_
  refine x_pickf' hb209 J (fun U J => ?_) rfl
  refine x_m J rfl fun U J => ?_
  refine bcase (b := y162.2.2.1 != x157) (fun hb210 => ?_) fun hb210 => ?_
  ·replace G := ift hb210 G
   refine xO 5 hb210 J rfl fun U J => ?_
   refine x_pickt' hb210 J (fun U J => ?_) rfl
   refine wpList_nil ?_
   replace X := SH.nil_own (d := k41) (e := 41) X
   replace X := X.drop 3 |>.drop 3 |>.pk 2 |>.pk 1 |>.pk 2
   exact hj2 y179 0 [] true G Z184 wz185 B181 m182 d183 none 0 0 sb190 h186 U w (J.sub _ rfl) X
  replace G := iff' hb210 G
  refine x_on' hb210 J ?_ rfl
  refine x_m J rfl fun U J => ?_
  refine x_on' hb210 J ?_ rfl
  refine x_m J rfl fun U J => ?_
  refine x_on' hb210 J ?_ rfl
  refine x_v J (r_makeFunc rfl (mapev (vals := #[.pointer (some ⟨g189, 0, none⟩)]) J rfl) (mapev (vals := #[]) J rfl)) rfl fun U J => ?_
  refine x_on' hb210 J ?_ rfl
  replace X := X.pk 1 |>.pk 2
  obtain ⟨Z211, wz212, X, h213, sb236⟩ := SH.freeze (n := m165) (c := d166) (A := B164) X
  have h214 := Imm.sub h187 sb236
  have h215 := Imm.sub h188 sb236
  have h216 := Imm.sub h186 sb236
  replace X := SH.nil_own (d := k41) (e := 41) X
  replace X := SH.pure_ h216 X
  replace X := X.pk 1 |>.pk 3
  replace X := obj83_mk (x := (⟨y179, 0, []⟩ : S83)) X
  obtain ⟨y217, h218, G⟩ := bnd G
  refine x_call' en39 J (F_Try_segment_Segment_foot (L := zone Z211 wz212 :: own (kI .u8) 5 B110 m111 d112 y108.2.1 :: L) y162.2.1 (⟨y179, 0, []⟩ : S83) B164 m165 d166 g189 h218 0 rfl h213 X) (fun v U w hR J => ?_) rfl
  obtain ⟨rfl, X⟩ := hR
  obtain ⟨A219, n220, c221, A222, n223, c224, X⟩ := obj83_open X
  obtain ⟨h225, X⟩ := (X.pk 2).unpure
  refine x_on' hb210 J ?_ rfl
  refine x_v J (r_not rfl (J.ev rfl)) rfl fun U J => ?_
  refine x_pickf' hb210 J (fun U J => ?_) rfl
  refine wpList_nil ?_
  replace X := X.drop 3
  exact hj2 y217.2.f0 y217.2.f1 y217.2.f2 (!y217.1) G Z211 wz212 A219 n220 c221 A222 n223 c224 (Sub.trans sb190 sb236) h225 U w (J.sub _ rfl) X
 refine wp_reg ?_
 refine x_m J rfl fun U J => ?_
 refine x_v J (r_neI rfl (J.ev rfl) (J.ev rfl)) rfl fun U J => ?_
 refine x_m J rfl fun U J => ?_
 refine bcase (b := y108.1 != 116) (fun hb226 => ?_) fun hb226 => ?_
 ·replace G := ift hb226 G
  refine xO 3 hb226 J rfl fun U J => ?_
  refine x_pickt' hb226 J (fun U J => ?_) rfl
  refine x_m J rfl fun U J => ?_
  refine xO 4 rfl J rfl fun U J => ?_
  refine x_pickt' rfl J (fun U J => ?_) rfl
  refine wpList_nil ?_
  exact hj1 true G U w (J.sub _ rfl) X
 replace G := iff' hb226 G
 refine x_on' hb226 J ?_ rfl
 refine x_m J rfl fun U J => ?_
 refine x_on' hb226 J ?_ rfl
 refine x_len' uu24 (X.rd 0 rfl).2.1 J (fun U J => ?_) rfl
 refine x_on' hb226 J ?_ rfl
 refine x_v J (r_neI rfl (J.ev rfl) (J.ev rfl)) rfl fun U J => ?_
 refine x_pickf' hb226 J (fun U J => ?_) rfl
 refine x_m J rfl fun U J => ?_
 refine bcase (b := (y108.2.1.length : Int) != 4) (fun hb227 => ?_) fun hb227 => ?_
 ·replace G := ift hb227 G
  refine xO 4 hb227 J rfl fun U J => ?_
  refine x_pickt' hb227 J (fun U J => ?_) rfl
  refine wpList_nil ?_
  exact hj1 true G U w (J.sub _ rfl) X
 replace G := iff' hb227 G
 refine x_on' hb227 J ?_ rfl
 refine x_m J rfl fun U J => ?_
 refine x_on' hb227 J ?_ rfl
 refine x_m J rfl fun U J => ?_
 refine x_on' hb227 J ?_ rfl
 refine x_len' uu24 (X.imm 1 ha0 rfl).2.1 J (fun U J => ?_) rfl
 refine x_on' hb227 J ?_ rfl
 refine x_v J (r_neI rfl (J.ev rfl) (J.ev rfl)) rfl fun U J => ?_
 refine x_pickf' hb227 J (fun U J => ?_) rfl
 refine wpList_nil ?_
 exact hj1 (y108.2.2.1 != (a0.length : Int)) G U w (J.sub _ rfl) X
theorem F_slices_Clone_segment_Chunk_segment_Chunk {r : World} {L : List HP} {w : World} (a0 : (List S41)) (A0 : Option Addr) (n0 : Nat) (c0 : Nat) {y : ((List S41))} (G : slices_Clone_segment_Chunk_segment_Chunk a0 = some y) (ha0 : RdL L k41 A0 n0 c0 a0) (X : SH r (L) w) :
  Ret Tryd.prog 41 #[.slice A0 n0 c0] w fun v w' => ∃ (B0 : Option Addr) (m0 : Nat) (d0 : Nat), v = .slice B0 m0 d0 ∧ SH r (own k41 41 B0 m0 d0 y :: L) w' := by
 refine enter Tryd.func41 rfl Tryd.ntmps41 [(0, .slice A0 n0 c0)] rfl (by simp) ?_
 intro U J Qf hQ hQn
 unfold slices_Clone_segment_Chunk_segment_Chunk at G
 refine ws fun K100 hK100 => ?_
 refine x_m J rfl fun U J => ?_
 refine wn (hK100 _ _ ?_)
 refine wp_seq_k fun K101 hK101 => ?_
 refine ws fun K102 hK102 => ?_
 refine x_m J rfl fun U J => ?_
 rcases A0 with _ | ad104
 ·replace G := nil_l (RdL.none_nil ha0 (X.sfx 0)) G
  refine x_v (v := .bool true) J (r_eqNilS (p := none) uu38 rfl (J.ev rfl) (J.ev rfl)) rfl fun U J => ?_
  refine wn (hK102 _ _ ?_)
  refine c_t (b := true) rfl J ?_ rfl
  refine ws fun K103 hK103 => ?_
  refine x_m J rfl fun U J => ?_
  refine wn (hK103 _ _ ?_)
  refine wp_ret ?_
  replace X := SH.nil_own (d := k41) (e := 41) X
  cases G
  refine hQ _ _ ?_
  refine lv Tryd.results41 J rfl ?_
  exact ⟨none, 0, 0, rfl, X⟩
 replace G := nil_r G
 refine x_v (v := .bool false) J (r_eqNilS (p := some ad104) uu38 rfl (J.ev rfl) (J.ev rfl)) rfl fun U J => ?_
 refine wn (hK102 _ _ ?_)
 refine c_f (b := false) rfl J ?_ rfl
 refine wp_skip ?_
 refine hK101 _ _ ?_
 refine ws fun K104 hK104 => ?_
 refine x_bsl' (d := k41) (e := 41) (ps := #[]) (cells := []) (xs := []) (fun w => by kernel_rfl) rfl rfl J X (fun g105 U w X J => ?_) rfl
 refine x_m J rfl fun U J => ?_
 obtain ⟨h106, G⟩ := chk_some G
 have hr := X.rdl 1 ha0 rfl
 refine x_app' 0 inf41 uu38 J X hr.1 hr.2.1 h106 rfl (fun A107 n108 c109 U w X J => ?_) rfl
 rw [List.nil_append] at X
 refine x_m J rfl fun U J => ?_
 refine wn (hK104 _ _ ?_)
 refine wp_ret ?_
 cases G
 refine hQ _ _ ?_
 refine lv Tryd.results41 J rfl ?_
 exact ⟨A107, n108, c109, rfl, X⟩
theorem F_segment_Segment_Chunks {r : World} {L : List HP} {w : World} {Z : Nat → Prop} {wz : World} (a0 : (Option S83)) (p0 : Option Addr) {y : ((List S41))} (G : segment_Segment_Chunks a0 = some y) (qz : Nat) (hZ : L[qz]? = some (zone Z wz)) (X : SH r (optP (obj83 Z wz) p0 a0 :: L) w) :
  Ret Tryd.prog 15 #[.pointer p0] w fun v w' => ∃ (B0 : Option Addr) (m0 : Nat) (d0 : Nat), v = .slice B0 m0 d0 ∧ SH r (own k41 41 B0 m0 d0 y :: optP (obj83 Z wz) p0 a0 :: L) w' := by
 refine enter Tryd.func15 rfl Tryd.ntmps15 [(0, .pointer p0)] rfl (by simp) ?_
 intro U J Qf hQ hQn
 unfold segment_Segment_Chunks at G
 cases a0 with
 | none =>
  have hU := SH.unoptN X
  clear X
  obtain ⟨rfl, X⟩ := hU
  refine ws fun K100 hK100 => ?_
  refine x_m J rfl fun U J => ?_
  refine wn (hK100 _ _ ?_)
  refine wp_seq_k fun K101 hK101 => ?_
  refine ws fun K102 hK102 => ?_
  refine x_m J rfl fun U J => ?_
  refine x_v (v := .bool true) J (r_eqNilP (p := none) uu35 rfl (J.ev rfl) (J.ev rfl)) rfl fun U J => ?_
  refine wn (hK102 _ _ ?_)
  refine c_t (b := true) rfl J ?_ rfl
  refine ws fun K103 hK103 => ?_
  refine x_m J rfl fun U J => ?_
  refine wn (hK103 _ _ ?_)
  refine wp_ret ?_
  replace X := SH.nil_own (d := k41) (e := 41) X
  replace X := SH.optN (obj83 Z wz) X
  replace X := X.pk 1
  cases G
  refine hQ _ _ ?_
  refine lv Tryd.results15 J rfl ?_
  exact ⟨none, 0, 0, rfl, X⟩
 | some x104 =>
  have hU := SH.unoptS X
  clear X
  obtain ⟨g105, rfl, X⟩ := hU
  obtain ⟨A106, n107, c108, A109, n110, c111, X⟩ := obj83_open X
  obtain ⟨h112, X⟩ := (X.pk 2).unpure
  refine ws fun K113 hK113 => ?_
  refine x_m J rfl fun U J => ?_
  refine wn (hK113 _ _ ?_)
  refine wp_seq_k fun K114 hK114 => ?_
  refine ws fun K115 hK115 => ?_
  refine x_m J rfl fun U J => ?_
  refine x_v (v := .bool false) J (r_eqNilP (p := some ⟨g105, 0, none⟩) uu35 rfl (J.ev rfl) (J.ev rfl)) rfl fun U J => ?_
  refine wn (hK115 _ _ ?_)
  refine c_f (b := false) rfl J ?_ rfl
  refine wp_skip ?_
  refine hK114 _ _ ?_
  refine ws fun K116 hK116 => ?_
  refine x_m J rfl fun U J => ?_
  refine x_v J (r_nilCheck rfl (J.ev rfl)) rfl fun U J => ?_
  refine x_fab' fa83_2 J (fun U J => ?_) rfl
  refine x_ld' uu38 (X.cell 0 rfl 2 _ rfl) J (fun U J => ?_) rfl
  obtain ⟨y117, h118, G⟩ := bnd G
  refine x_call' en41 J (F_slices_Clone_segment_Chunk_segment_Chunk (L := blk g105 83 [.slice A106 n107 c108, .int .i64 x104.f1, .slice A109 n110 c111] :: own k41 41 A109 n110 c111 x104.f2 :: L) x104.f2 A109 n110 c111 h118 (RdL.own 1 rfl (X.dropN 0)) X) (fun v U w hR J => ?_) rfl
  obtain ⟨B119, m120, d121, rfl, X⟩ := hR
  refine x_m J rfl fun U J => ?_
  refine wn (hK116 _ _ ?_)
  refine wp_ret ?_
  replace X := SH.pure_ h112 X
  replace X := X.pk 3 |>.pk 3
  replace X := obj83_mk (x := x104) X
  replace X := SH.optS X
  replace X := X.pk 1
  cases G
  refine hQ _ _ ?_
  refine lv Tryd.results15 J rfl ?_
  exact ⟨B119, m120, d121, rfl, X⟩
noncomputable section
set_option linter.unusedSimpArgs false
def segment_Segment_Scan_b1 (l27812 : (List S44)) (x27816 : Int) : Option ((List S44) × Int × Int) :=
  some (l27812, x27816, 0)
def segment_Segment_Scan_x1_0 (l33972 : (List S44)) (x33976 : Int) : Option ((List S44) × Int × Int) :=
  segment_Segment_Scan_b1 l33972 x33976
def segment_Segment_Scan_b2 (x30893 : Int) (l36275 : (List S44)) (x36279 : Int) : Option (((List S44) × Int × Int) ⊕ (((List S44) × Int) ⊕ ((List S44) × Int × Int))) :=
  ltt (IntKind.i64.wrap (x30893 + 1)) fun x36280 => (some (.inl (l36275, x36279, x36280)))
def segment_Segment_Scan_b3 (x30893 : Int) (x36293 : Int) (l36675 : (List S44)) : Option (((List S44) × Int × Int) ⊕ (((List S44) × Int) ⊕ ((List S44) × Int × Int))) :=
  segment_Segment_Scan_b2 x30893 l36675 x36293
def segment_Segment_Scan_x2_2 (x30893 : Int) (x36293 : Int) (l36906 : (List S44)) : Option (((List S44) × Int × Int) ⊕ (((List S44) × Int) ⊕ ((List S44) × Int × Int))) :=
  segment_Segment_Scan_b3 x30893 x36293 l36906
def segment_Segment_Scan_b4 (x36794 : Int) (l36988 : (List S44)) : Option (((List S44) × Int) ⊕ (((List S44)) ⊕ ((List S44) × Int × Int))) :=
  ltt (IntKind.i64.wrap (x36794 + 1)) fun x36992 => (some (.inl (l36988, x36992)))
def segment_Segment_Scan_l2 (a1 : S33) (x36283 : S41) (y36306 : ((List S44) × Int × Int)) (l36790 : (List S44)) (x36794 : Int) : Option (((List S44) × Int) ⊕ (((List S44)) ⊕ ((List S44) × Int × Int))) :=
  if (decide (x36794 < (y36306.1.length : Int))) = true then ((at_ y36306.1 x36794).bind fun x36995 => (ltt (IntKind.u64.wrap x36794) fun x37001 => (ltt (IntKind.u64.wrap (x36283.f2 + x37001)) fun x37003 => (if (x36995.f0 != x37003) = true then (some (.inr (.inr ([], 0, 3)))) else ((segment_Filter_Wants a1 x36995).bind fun y37008 => (if y37008 = true then (chk (l36790.length + [x36995].length ≤ 140737488355328 / 48) (segment_Segment_Scan_b4 x36794 (l36790 ++ [x36995]))) else (segment_Segment_Scan_b4 x36794 l36790))))))) else (some (.inr (.inl (l36790))))
def segment_Segment_Scan_j2 (a1 : S33) (l30888 : (List S44)) (x30893 : Int) (x36283 : S41) (x36293 : Int) (y36306 : ((List S44) × Int × Int)) (x36330 : Int) : Option (((List S44) × Int × Int) ⊕ (((List S44) × Int) ⊕ ((List S44) × Int × Int))) :=
  if (x36330 != 0) = true then (some (.inr (.inr ([], 0, x36330)))) else ((loop (fun s => segment_Segment_Scan_l2 a1 x36283 y36306 s.1 s.2) (l30888, 0)).bind fun t => match t with | (.inl t) => segment_Segment_Scan_x2_2 x30893 x36293 t | (.inr t) => some (.inr (.inr t)))
def segment_Segment_Scan_j3 (a1 : S33) (l30888 : (List S44)) (x30893 : Int) (x36283 : S41) (x36293 : Int) (y36306 : ((List S44) × Int × Int)) (b37022 : Bool) : Option (((List S44) × Int × Int) ⊕ (((List S44) × Int) ⊕ ((List S44) × Int × Int))) :=
  if b37022 = true then (segment_Segment_Scan_j2 a1 l30888 x30893 x36283 x36293 y36306 3) else (segment_Segment_Scan_j2 a1 l30888 x30893 x36283 x36293 y36306 y36306.2.2)
def segment_Segment_Scan_j1 (a1 : S33) (x101 : S83) (l30888 : (List S44)) (x30893 : Int) (x36283 : S41) (x36293 : Int) (x36304 : Int) : Option (((List S44) × Int × Int) ⊕ (((List S44) × Int) ⊕ ((List S44) × Int × Int))) :=
  (event_Read x101.f0 x36283.f1 x101.f1).bind fun y36306 => (if (y36306.2.2 == 0) = true then (if (y36306.2.1 != x36304) = true then (segment_Segment_Scan_j3 a1 l30888 x30893 x36283 x36293 y36306 true) else (if ((y36306.1.length : Int) != x36283.f0) = true then (segment_Segment_Scan_j3 a1 l30888 x30893 x36283 x36293 y36306 true) else ((segment_chunk y36306.1 x36283.f1).bind fun y37027 => (segment_Segment_Scan_j3 a1 l30888 x30893 x36283 x36293 y36306 (!eq41 y37027 x36283))))) else (segment_Segment_Scan_j3 a1 l30888 x30893 x36283 x36293 y36306 false))
def segment_Segment_Scan_l1 (a1 : S33) (x101 : S83) (l30888 : (List S44)) (x30892 : Int) (x30893 : Int) : Option (((List S44) × Int × Int) ⊕ (((List S44) × Int) ⊕ ((List S44) × Int × Int))) :=
  if (decide (x30893 < (x101.f2.length : Int))) = true then ((at_ x101.f2 x30893).bind fun x36283 => ((segment_Filter_May a1 x36283).bind fun y36289 => (if (!y36289) = true then (segment_Segment_Scan_b2 x30893 l30888 x30892) else (ltt (IntKind.i64.wrap (x30892 + 1)) fun x36293 => (ltt (IntKind.i64.wrap (x30893 + 1)) fun x37030 => (if (decide (x37030 < (x101.f2.length : Int))) = true then ((at_ x101.f2 x37030).bind fun x37033 => (segment_Segment_Scan_j1 a1 x101 l30888 x30893 x36283 x36293 x37033.f1)) else (segment_Segment_Scan_j1 a1 x101 l30888 x30893 x36283 x36293 (x101.f0.length : Int)))))))) else (some (.inr (.inl (l30888, x30892))))
def segment_Segment_Scan (a0 : (Option S83)) (a1 : S33) : Option ((List S44) × Int × Int) :=
  match a0 with | none => (some ([], 0, 5)) | some x101 => ((loop (fun s => segment_Segment_Scan_l1 a1 x101 s.1 s.2.1 s.2.2) ([], 0, 0)).bind fun t => match t with | (.inl t) => segment_Segment_Scan_x1_0 t.1 t.2 | (.inr t) => some t)
end
theorem F_segment_Segment_Scan {r : World} {L : List HP} {w : World} {Z : Nat → Prop} {wz : World} (a0 : (Option S83)) (a1 : S33) (p0 : Option Addr) {y : ((List S44) × Int × Int)} (G : segment_Segment_Scan a0 a1 = some y) (hG0 : Imm Z wz (kI .u32) (some ⟨0, 0, none⟩) 16 16 gl_page_table) (X : SH r (optP (obj83 Z wz) p0 a0 :: zone Z wz :: L) w) :
  Ret Tryd.prog 18 #[.pointer p0, .agg #[.int .u64 a1.f0, .int .u64 a1.f1, .int .i64 a1.f2, .int .i64 a1.f3]] w fun v w' => ∃ (Z' : Nat → Prop) (wz' : World) (B0 : Option Addr) (m0 : Nat) (d0 : Nat), v = .tuple #[(.slice B0 m0 d0), (.int .i64 y.2.1), (.int .i64 y.2.2)] ∧ Sub Z wz Z' wz' ∧ SH r (own k44 44 B0 m0 d0 y.1 :: optP (obj83 Z' wz') p0 a0 :: zone Z' wz' :: L) w' := by
 refine enter Tryd.func18 rfl Tryd.ntmps18 [(0, .pointer p0), (1, .agg #[.int .u64 a1.f0, .int .u64 a1.f1, .int .i64 a1.f2, .int .i64 a1.f3])] rfl (by simp) ?_
 intro U J Qf hQ hQn
 unfold segment_Segment_Scan at G
 cases a0 with
 | none =>
  have hU := SH.unoptN X
  clear X
  obtain ⟨rfl, X⟩ := hU
  refine ws fun K100 hK100 => ?_
  refine x_box' J X (fun g101 U w X J => ?_) rfl
  refine x_m J rfl fun U J => ?_
  refine x_m J rfl fun U J => ?_
  refine x_m J rfl fun U J => ?_
  refine wn (hK100 _ _ ?_)
  refine wp_seq_k fun K102 hK102 => ?_
  refine ws fun K103 hK103 => ?_
  refine x_m J rfl fun U J => ?_
  refine x_v (v := .bool true) J (r_eqNilP (p := none) uu35 rfl (J.ev rfl) (J.ev rfl)) rfl fun U J => ?_
  refine wn (hK103 _ _ ?_)
  refine c_t (b := true) rfl J ?_ rfl
  refine ws fun K104 hK104 => ?_
  refine x_m J rfl fun U J => ?_
  refine x_m J rfl fun U J => ?_
  refine x_m J rfl fun U J => ?_
  refine wn (hK104 _ _ ?_)
  refine wp_ret ?_
  replace X := SH.nil_own (d := k44) (e := 44) X
  replace X := SH.optN (obj83 Z wz) X
  replace X := X.drop 2 |>.pk 2 |>.pk 1 |>.pk 2
  cases G
  refine hQ _ _ ?_
  refine lv3 Tryd.results18 J rfl rfl rfl ?_
  exact ⟨Z, wz, none, 0, 0, rfl, (Sub.refl _ _), X⟩
 | some x105 =>
  have hU := SH.unoptS X
  clear X
  obtain ⟨g106, rfl, X⟩ := hU
  obtain ⟨A107, n108, c109, A110, n111, c112, X⟩ := obj83_open X
  obtain ⟨h113, X⟩ := (X.pk 2).unpure
  refine ws fun K114 hK114 => ?_
  refine x_box' J X (fun g115 U w X J => ?_) rfl
  refine x_m J rfl fun U J => ?_
  refine x_m J rfl fun U J => ?_
  refine x_m J rfl fun U J => ?_
  refine wn (hK114 _ _ ?_)
  refine wp_seq_k fun K116 hK116 => ?_
  refine ws fun K117 hK117 => ?_
  refine x_m J rfl fun U J => ?_
  refine x_v (v := .bool false) J (r_eqNilP (p := some ⟨g106, 0, none⟩) uu35 rfl (J.ev rfl) (J.ev rfl)) rfl fun U J => ?_
  refine wn (hK117 _ _ ?_)
  refine c_f (b := false) rfl J ?_ rfl
  refine wp_skip ?_
  refine hK116 _ _ ?_
  refine ws fun K118 hK118 => ?_
  refine x_m J rfl fun U J => ?_
  refine wn (hK118 _ _ ?_)
  refine ws fun K119 hK119 => ?_
  refine x_m J rfl fun U J => ?_
  refine wn (hK119 _ _ ?_)
  refine wp_seq_k fun K120 hK120 => ?_
  refine ws fun K121 hK121 => ?_
  refine x_m J rfl fun U J => ?_
  refine x_v J (r_nilCheck rfl (J.ev rfl)) rfl fun U J => ?_
  refine x_fab' fa83_2 J (fun U J => ?_) rfl
  refine x_ld' uu38 (X.cell 1 rfl 2 _ rfl) J (fun U J => ?_) rfl
  refine x_len' uu38 (X.rd 2 rfl).2.1 J (fun U J => ?_) rfl
  refine x_m J rfl fun U J => ?_
  refine wn (hK121 _ _ ?_)
  refine wp_block_k fun Kx122 hKx122 => ?_
  have hb1 : ∀ (l123 : (List S44)) (x124 : Int), segment_Segment_Scan_b1 l123 x124 = some y → ∀ (Z125 : Nat → Prop) (wz126 : World) (A127 : Option Addr) (n128 : Nat) (c129 : Nat) (h130 : Sub Z wz Z125 wz126) (h131 : Imm Z125 wz126 (kI .u8) A107 n108 c109 x105.f0) (U : Act) (w : World), FR 123 [] U [(0, (pP g106)), (7, .slice A127 n128 c129), (8, .int .i64 x124)] → SH r (blk g106 83 [.slice A107 n108 c109, .int .i64 x105.f1, .slice A110 n111 c112] :: own k41 41 A110 n111 c112 x105.f2 :: own k44 44 A127 n128 c129 l123 :: zone Z125 wz126 :: L) w → Kx122 U w := by
   intro l123 x124 G Z125 wz126 A127 n128 c129 h130 h131 U w J X
   unfold segment_Segment_Scan_b1 at G
   refine hKx122 _ _ ?_
   refine hK120 _ _ ?_
   refine ws fun K132 hK132 => ?_
   refine x_m J rfl fun U J => ?_
   refine x_m J rfl fun U J => ?_
   refine x_m J rfl fun U J => ?_
   refine x_m J rfl fun U J => ?_
   refine x_m J rfl fun U J => ?_
   refine wn (hK132 _ _ ?_)
   refine wp_ret ?_
   replace X := SH.pure_ h131 X
   replace X := X.pk 2 |>.pk 2
   replace X := obj83_mk (x := x105) X
   replace X := SH.optS X
   replace X := X.pk 2 |>.pk 1 |>.pk 2
   cases G
   refine hQ _ _ ?_
   refine lv3 Tryd.results18 J rfl rfl rfl ?_
   exact ⟨Z125, wz126, A127, n128, c129, rfl, h130, X⟩
  obtain ⟨t133, hl133, G⟩ := bnd G
  have hR133 := G
  have hx133_0 : ∀ (l134 : (List S44)) (x133 : Int), (.inl (l134, x133)) = t133 → ∀ (Z135 : Nat → Prop) (wz136 : World) (A137 : Option Addr) (n138 : Nat) (c139 : Nat) (h140 : Sub Z wz Z135 wz136) (h141 : Imm Z135 wz136 (kI .u8) A107 n108 c109 x105.f0) (U : Act) (w : World), FR 123 [] U [(0, (pP g106)), (7, .slice A137 n138 c139), (8, .int .i64 x133)] → SH r (blk g106 83 [.slice A107 n108 c109, .int .i64 x105.f1, .slice A110 n111 c112] :: own k41 41 A110 n111 c112 x105.f2 :: own k44 44 A137 n138 c139 l134 :: zone Z135 wz136 :: L) w → Kx122 U w := by
   intro l134 x133 ht Z135 wz136 A137 n138 c139 h140 h141 U w J X
   subst ht
   replace G : segment_Segment_Scan_x1_0 l134 x133 = some y := G
   unfold segment_Segment_Scan_x1_0 at G
   exact hb1 l134 x133 G Z135 wz136 A137 n138 c139 h140 h141 U w (J.sub _ rfl) X
  replace X := SH.nil_own (d := k44) (e := 44) X
  replace X := X.pk 4 |>.pk 1 |>.pk 4 |>.pk 3 |>.pk 4
  refine wp_loop_fn hl133 (fun s U w => ∃ (Z142 : Nat → Prop) (wz143 : World) (A144 : Option Addr) (n145 : Nat) (c146 : Nat), Sub Z wz Z142 wz143 ∧ Imm Z142 wz143 (kI .u8) A107 n108 c109 x105.f0 ∧ FR 123 [] U [(0, (pP g106)), (3, (pP g115)), (7, .slice A144 n145 c146), (8, .int .i64 s.2.1), (22, .slice A110 n111 c112), (23, .int .i64 (x105.f2.length : Int)), (24, .int .i64 s.2.2)] ∧ SH r (blk g106 83 [.slice A107 n108 c109, .int .i64 x105.f1, .slice A110 n111 c112] :: blk g115 33 [.int .u64 a1.f0, .int .u64 a1.f1, .int .i64 a1.f2, .int .i64 a1.f3] :: own k41 41 A110 n111 c112 x105.f2 :: own k44 44 A144 n145 c146 s.1 :: zone Z142 wz143 :: L) w) ⟨Z, wz, none, 0, 0, (Sub.refl _ _), h113, J.sub _ rfl, X⟩ ?_
  intro N133 s133 o133 G N133_ T133_ U w hLab
  obtain ⟨l147, x148, x149⟩ := s133
  replace G : segment_Segment_Scan_l1 a1 x105 l147 x148 x149 = some o133 := G
  unfold segment_Segment_Scan_l1 at G
  try dsimp only at hLab
  obtain ⟨Z142, wz143, A144, n145, c146, h150, h151, J, X⟩ := hLab
  refine ws fun K152 hK152 => ?_
  refine x_v J (r_ltI rfl (J.ev rfl) (J.ev rfl)) rfl fun U J => ?_
  refine wn (hK152 _ _ ?_)
  refine wp_seq_k fun K153 hK153 => ?_
  refine c_if J rfl (fun hb154 => ?_) fun hb154 => ?_
  ·replace G := ift hb154 G
   refine wp_skip ?_
   refine hK153 _ _ ?_
   refine wp_seq_k fun K155 hK155 => ?_
   refine wp_block_k fun Kx156 hKx156 => ?_
   have hb2 : ∀ (l157 : (List S44)) (x158 : Int), segment_Segment_Scan_b2 x149 l157 x158 = some o133 → ∀ (Z159 : Nat → Prop) (wz160 : World) (A161 : Option Addr) (n162 : Nat) (c163 : Nat) (h164 : Sub Z wz Z159 wz160) (h165 : Imm Z159 wz160 (kI .u8) A107 n108 c109 x105.f0) (U : Act) (w : World), FR 123 [] U [(0, (pP g106)), (3, (pP g115)), (7, .slice A161 n162 c163), (8, .int .i64 x158), (22, .slice A110 n111 c112), (23, .int .i64 (x105.f2.length : Int)), (24, .int .i64 x149)] → SH r (blk g106 83 [.slice A107 n108 c109, .int .i64 x105.f1, .slice A110 n111 c112] :: blk g115 33 [.int .u64 a1.f0, .int .u64 a1.f1, .int .i64 a1.f2, .int .i64 a1.f3] :: own k41 41 A110 n111 c112 x105.f2 :: own k44 44 A161 n162 c163 l157 :: zone Z159 wz160 :: L) w → Kx156 U w := by
    intro l157 x158 G Z159 wz160 A161 n162 c163 h164 h165 U w J X
    unfold segment_Segment_Scan_b2 at G
    refine hKx156 _ _ ?_
    refine hK155 _ _ ?_
    refine wp_reg ?_
    obtain ⟨x166, h167, G⟩ := ltt_ G
    refine x_v (v := .int .i64 x166) J (rv_i h167 (r_add rfl (J.ev rfl) (J.ev rfl))) rfl fun U J => ?_
    refine x_m J rfl fun U J => ?_
    refine wpList_nil ?_
    cases G
    exact ⟨_, N133_ _ rfl, Z159, wz160, A161, n162, c163, h164, h165, J.sub _ rfl, X⟩
   refine ws fun K168 hK168 => ?_
   refine x_m J rfl fun U J => ?_
   obtain ⟨x169, h170, G⟩ := bnd G
   refine x_ia' uu38 sz41 (X.rd 2 rfl) h170 J (fun U J => ?_) rfl
   obtain ⟨cs, hV, hc171⟩ := el (X.rd 2 rfl) h170
   obtain rfl := hV
   refine x_lda' (cs := [.int .i64 x169.f0, .int .i64 x169.f1, .int .u64 x169.f2, .int .u64 x169.f3, .int .i64 x169.f4, .int .i64 x169.f5, str x169.f6, str x169.f7]) uu41 sz41 (fun j u h => by rw [ea_add]; exact hc171 _ _ h) J (fun U J => ?_) rfl
   refine x_alloc' (cs := [.int .i64 0, .int .i64 0, .int .u64 0, .int .u64 0, .int .i64 0, .int .i64 0, str [], str []]) zr41 J X (fun g172 U w X J => ?_) rfl
   refine x_m J rfl fun U J => ?_
   refine x_stb' 0 sz41 J X rfl (fun  U w X J => ?_) rfl
   refine wn (hK168 _ _ ?_)
   refine wp_seq_k fun K173 hK173 => ?_
   refine ws fun K174 hK174 => ?_
   refine x_lda' (ad := ⟨g115, 0, none⟩) (cs := [.int .u64 a1.f0, .int .u64 a1.f1, .int .i64 a1.f2, .int .i64 a1.f3]) uu33 sz33 (fun j u h => by rw [add_mk, Nat.zero_add]; exact X.cell 2 rfl j u h) J (fun U J => ?_) rfl
   refine x_lda' (ad := ⟨g172, 0, none⟩) (cs := [.int .i64 x169.f0, .int .i64 x169.f1, .int .u64 x169.f2, .int .u64 x169.f3, .int .i64 x169.f4, .int .i64 x169.f5, str x169.f6, str x169.f7]) uu41 sz41 (fun j u h => by rw [add_mk, Nat.zero_add]; exact X.cell 0 rfl j u h) J (fun U J => ?_) rfl
   obtain ⟨y175, h176, G⟩ := bnd G
   refine x_call' en17 J (F_segment_Filter_May (L := blk g172 41 [.int .i64 x169.f0, .int .i64 x169.f1, .int .u64 x169.f2, .int .u64 x169.f3, .int .i64 x169.f4, .int .i64 x169.f5, str x169.f6, str x169.f7] :: blk g106 83 [.slice A107 n108 c109, .int .i64 x105.f1, .slice A110 n111 c112] :: blk g115 33 [.int .u64 a1.f0, .int .u64 a1.f1, .int .i64 a1.f2, .int .i64 a1.f3] :: own k41 41 A110 n111 c112 x105.f2 :: own k44 44 A144 n145 c146 l147 :: zone Z142 wz143 :: L) a1 x169 h176 X) (fun v U w hR J => ?_) rfl
   obtain ⟨rfl, X⟩ := hR
   refine x_v J (r_not rfl (J.ev rfl)) rfl fun U J => ?_
   refine wn (hK174 _ _ ?_)
   refine c_if J rfl (fun hb177 => ?_) fun hb177 => ?_
   ·replace G := ift hb177 G
    refine wp_exit ?_
    replace X := X.drop 0
    exact hb2 l147 x148 G Z142 wz143 A144 n145 c146 h150 h151 U w (J.sub _ rfl) X
   replace G := iff' hb177 G
   refine wp_skip ?_
   refine hK173 _ _ ?_
   refine ws fun K178 hK178 => ?_
   refine x_m J rfl fun U J => ?_
   obtain ⟨x179, h180, G⟩ := ltt_ G
   refine x_v (v := .int .i64 x179) J (rv_i h180 (r_add rfl (J.ev rfl) (J.ev rfl))) rfl fun U J => ?_
   refine x_m J rfl fun U J => ?_
   refine wn (hK178 _ _ ?_)
   refine ws fun K181 hK181 => ?_
   refine x_m J rfl fun U J => ?_
   refine x_v J (r_nilCheck rfl (J.ev rfl)) rfl fun U J => ?_
   refine x_fab' fa83_0 J (fun U J => ?_) rfl
   refine x_ld' uu24 (X.cell 1 rfl 0 _ rfl) J (fun U J => ?_) rfl
   refine x_len' uu24 (X.imm 5 h151 rfl).2.1 J (fun U J => ?_) rfl
   refine x_m J rfl fun U J => ?_
   refine wn (hK181 _ _ ?_)
   refine wp_seq_k fun K182 hK182 => ?_
   have hj1 : ∀ (x183 : Int), segment_Segment_Scan_j1 a1 x105 l147 x149 x169 x179 x183 = some o133 → ∀ (U : Act) (w : World), FR 123 [] U [(0, (pP g106)), (3, (pP g115)), (7, .slice A144 n145 c146), (8, .int .i64 x179), (10, (pP g172)), (11, .int .i64 x183), (22, .slice A110 n111 c112), (23, .int .i64 (x105.f2.length : Int)), (24, .int .i64 x149)] → SH r (blk g106 83 [.slice A107 n108 c109, .int .i64 x105.f1, .slice A110 n111 c112] :: blk g115 33 [.int .u64 a1.f0, .int .u64 a1.f1, .int .i64 a1.f2, .int .i64 a1.f3] :: blk g172 41 [.int .i64 x169.f0, .int .i64 x169.f1, .int .u64 x169.f2, .int .u64 x169.f3, .int .i64 x169.f4, .int .i64 x169.f5, str x169.f6, str x169.f7] :: own k41 41 A110 n111 c112 x105.f2 :: own k44 44 A144 n145 c146 l147 :: zone Z142 wz143 :: L) w → K182 U w := by
    intro x183 G U w J X
    unfold segment_Segment_Scan_j1 at G
    refine hK182 _ _ ?_
    refine wp_seq_k fun K184 hK184 => ?_
    refine wp_draw [0, 1, 3, 7, 0, 16, 0, 64, 192, 448, 1023, 2047, 4095, 4095, 4095, 8191, 49151, 131071] [10] rfl J X (by kernel_rfl) (by kernel_rfl) (by kernel_rfl) (by kernel_rfl) fun w X => ?_
    refine ⟨[(0, (pP g106)), (1, (pP g106)), (2, (pP g106)), (3, .slice A107 n108 c109), (4, .pointer (some ⟨g172, 1, none⟩)), (5, .int .i64 x169.f1), (6, (pP g106)), (7, (pP g106)), (8, .pointer (some ⟨g106, 1, none⟩)), (9, .int .i64 x105.f1)], ?_⟩
    refine dF [0, 1, 2, 3, 4, 5, 6, 7, 8, 9] [10] (by kernel_rfl) ⟨pm rfl, pt [(58, (pP g106))] rfl (fun U J => r_nilCheck rfl (J.ev rfl)), pt [(59, (pP g106))] rfl (fun U J => y_fab fa83_0 J rfl rfl), pt [(60, (pP g106))] rfl (fun U J => y_ld uu24 (X.cell 0 rfl 0 _ rfl) J rfl rfl rfl), pt [(10, (pP g172))] rfl (fun U J => y_fab fa41_1 J rfl rfl), pt [(62, .pointer (some ⟨g172, 1, none⟩))] rfl (fun U J => y_ld uu3 (X.cell 2 rfl 1 _ rfl) J rfl rfl rfl), pm rfl, pt [(64, (pP g106))] rfl (fun U J => r_nilCheck rfl (J.ev rfl)), pt [(65, (pP g106))] rfl (fun U J => y_fab fa83_1 J rfl rfl), pt [(66, .pointer (some ⟨g106, 1, none⟩))] rfl (fun U J => y_ld uu3 (X.cell 0 rfl 1 _ rfl) J rfl rfl rfl), trivial⟩ ⟨et [(61, .slice A107 n108 c109), (63, .int .i64 x169.f1), (67, .int .i64 x105.f1)] rfl (fun U J K hK => ?_), trivial⟩
    replace X := X.pk 5
    obtain ⟨y185, h186, G⟩ := bnd G
    refine z_call' en42 J (F_event_Read (L := blk g106 83 [.slice A107 n108 c109, .int .i64 x105.f1, .slice A110 n111 c112] :: blk g115 33 [.int .u64 a1.f0, .int .u64 a1.f1, .int .i64 a1.f2, .int .i64 a1.f3] :: blk g172 41 [.int .i64 x169.f0, .int .i64 x169.f1, .int .u64 x169.f2, .int .u64 x169.f3, .int .i64 x169.f4, .int .i64 x169.f5, str x169.f6, str x169.f7] :: own k41 41 A110 n111 c112 x105.f2 :: own k44 44 A144 n145 c146 l147 :: L) x105.f0 x169.f1 x105.f1 A107 n108 c109 h186 h151 (Imm.sub hG0 h150) X) (fun v w hR => ?_) rfl
    obtain ⟨Z187, wz188, B189, m190, d191, rfl, h192, X⟩ := hR
    have h193 := Imm.sub h151 h192
    refine hK _ [(11, .tuple #[(.slice B189 m190 d191), (.int .i64 y185.2.1), (.int .i64 y185.2.2)]), (12, .slice B189 m190 d191), (13, .int .i64 y185.2.1), (14, .int .i64 y185.2.2), (15, .slice B189 m190 d191), (16, .int .i64 y185.2.1), (17, .int .i64 y185.2.2)] _ rfl ?_
    refine dEnd [11, 12, 13, 14, 15, 16, 17] (by kernel_rfl) ⟨pm rfl, pt [(57, .tuple #[(.slice B189 m190 d191), (.int .i64 y185.2.1), (.int .i64 y185.2.2)])] rfl (fun U J => r_extract rfl (J.ev rfl) rfl), pt [(57, .tuple #[(.slice B189 m190 d191), (.int .i64 y185.2.1), (.int .i64 y185.2.2)])] rfl (fun U J => r_extract rfl (J.ev rfl) rfl), pt [(57, .tuple #[(.slice B189 m190 d191), (.int .i64 y185.2.1), (.int .i64 y185.2.2)])] rfl (fun U J => r_extract rfl (J.ev rfl) rfl), pm rfl, pm rfl, pm rfl, trivial⟩ ⟨by kernel_rfl, by kernel_rfl⟩ [(0, (pP g106)), (3, (pP g115)), (7, .slice A144 n145 c146), (8, .int .i64 x179), (10, (pP g172)), (11, .int .i64 x183), (12, .slice B189 m190 d191), (13, .int .i64 y185.2.1), (14, .int .i64 y185.2.2), (22, .slice A110 n111 c112), (23, .int .i64 (x105.f2.length : Int)), (24, .int .i64 x149)] rfl (fun U J => ?_)
    refine hK184 _ _ ?_
    refine wp_seq_k fun K194 hK194 => ?_
    have hj2 : ∀ (x195 : Int), segment_Segment_Scan_j2 a1 l147 x149 x169 x179 y185 x195 = some o133 → ∀ (U : Act) (w : World), FR 123 [] U [(0, (pP g106)), (3, (pP g115)), (7, .slice A144 n145 c146), (8, .int .i64 x179), (10, (pP g172)), (12, .slice B189 m190 d191), (14, .int .i64 x195), (22, .slice A110 n111 c112), (23, .int .i64 (x105.f2.length : Int)), (24, .int .i64 x149)] → SH r (blk g106 83 [.slice A107 n108 c109, .int .i64 x105.f1, .slice A110 n111 c112] :: blk g115 33 [.int .u64 a1.f0, .int .u64 a1.f1, .int .i64 a1.f2, .int .i64 a1.f3] :: blk g172 41 [.int .i64 x169.f0, .int .i64 x169.f1, .int .u64 x169.f2, .int .u64 x169.f3, .int .i64 x169.f4, .int .i64 x169.f5, str x169.f6, str x169.f7] :: own k41 41 A110 n111 c112 x105.f2 :: own k44 44 A144 n145 c146 l147 :: own k44 44 B189 m190 d191 y185.1 :: zone Z187 wz188 :: L) w → K194 U w := by
     intro x195 G U w J X
     unfold segment_Segment_Scan_j2 at G
     refine hK194 _ _ ?_
     refine wp_seq_k fun K196 hK196 => ?_
     refine ws fun K197 hK197 => ?_
     refine x_m J rfl fun U J => ?_
     refine x_v J (r_neI rfl (J.ev rfl) (J.ev rfl)) rfl fun U J => ?_
     refine wn (hK197 _ _ ?_)
     refine c_if J rfl (fun hb198 => ?_) fun hb198 => ?_
     ·replace G := ift hb198 G
      refine ws fun K199 hK199 => ?_
      refine x_m J rfl fun U J => ?_
      refine x_m J rfl fun U J => ?_
      refine x_m J rfl fun U J => ?_
      refine x_m J rfl fun U J => ?_
      refine wn (hK199 _ _ ?_)
      refine wp_ret ?_
      replace X := SH.nil_own (d := k44) (e := 44) X
      replace X := SH.pure_ h193 X
      replace X := X.pk 5 |>.pk 3
      replace X := obj83_mk (x := x105) X
      replace X := SH.optS X
      replace X := X.drop 2 |>.drop 2 |>.drop 2 |>.drop 2 |>.pk 2 |>.pk 1 |>.pk 2
      cases G
      have ht := T133_ _ rfl
      subst ht
      replace G := hR133
      replace G : some ([], 0, x195) = some y := G
      cases G
      refine hQ _ _ ?_
      refine lv3 Tryd.results18 J rfl rfl rfl ?_
      exact ⟨Z187, wz188, none, 0, 0, rfl, (Sub.trans h150 h192), X⟩
     replace G := iff' hb198 G
     refine wp_skip ?_
     refine hK196 _ _ ?_
     refine ws fun K200 hK200 => ?_
     refine x_m J rfl fun U J => ?_
     refine x_len' uu22 (X.rd 5 rfl).2.1 J (fun U J => ?_) rfl
     refine x_m J rfl fun U J => ?_
     refine wn (hK200 _ _ ?_)
     refine wp_block_k fun Kx201 hKx201 => ?_
     have hb3 : ∀ (l202 : (List S44)), segment_Segment_Scan_b3 x149 x179 l202 = some o133 → ∀ (A203 : Option Addr) (n204 : Nat) (c205 : Nat) (U : Act) (w : World), FR 123 [] U [(0, (pP g106)), (3, (pP g115)), (7, .slice A203 n204 c205), (8, .int .i64 x179), (22, .slice A110 n111 c112), (23, .int .i64 (x105.f2.length : Int)), (24, .int .i64 x149)] → SH r (blk g106 83 [.slice A107 n108 c109, .int .i64 x105.f1, .slice A110 n111 c112] :: blk g115 33 [.int .u64 a1.f0, .int .u64 a1.f1, .int .i64 a1.f2, .int .i64 a1.f3] :: own k41 41 A110 n111 c112 x105.f2 :: own k44 44 A203 n204 c205 l202 :: zone Z187 wz188 :: L) w → Kx201 U w := by
      intro l202 G A203 n204 c205 U w J X
      unfold segment_Segment_Scan_b3 at G
      refine hKx201 _ _ ?_
      exact hb2 l202 x179 G Z187 wz188 A203 n204 c205 (Sub.trans h150 h192) h193 U w (J.sub _ rfl) X
     obtain ⟨t206, hl206, G⟩ := bnd G
     have hR206 := G
     have hx206_2 : ∀ (l207 : (List S44)), (.inl (l207)) = t206 → ∀ (A208 : Option Addr) (n209 : Nat) (c206 : Nat) (U : Act) (w : World), FR 123 [] U [(0, (pP g106)), (3, (pP g115)), (7, .slice A208 n209 c206), (8, .int .i64 x179), (22, .slice A110 n111 c112), (23, .int .i64 (x105.f2.length : Int)), (24, .int .i64 x149)] → SH r (blk g106 83 [.slice A107 n108 c109, .int .i64 x105.f1, .slice A110 n111 c112] :: blk g115 33 [.int .u64 a1.f0, .int .u64 a1.f1, .int .i64 a1.f2, .int .i64 a1.f3] :: own k41 41 A110 n111 c112 x105.f2 :: own k44 44 A208 n209 c206 l207 :: zone Z187 wz188 :: L) w → Kx201 U w := by
      intro l207 ht A208 n209 c206 U w J X
      subst ht
      replace G : segment_Segment_Scan_x2_2 x149 x179 l207 = some o133 := G
      unfold segment_Segment_Scan_x2_2 at G
      exact hb3 l207 G A208 n209 c206 U w (J.sub _ rfl) X
     refine wp_loop_fn hl206 (fun s U w => ∃ (A210 : Option Addr) (n211 : Nat) (c212 : Nat), FR 123 [] U [(0, (pP g106)), (3, (pP g115)), (7, .slice A210 n211 c212), (8, .int .i64 x179), (10, (pP g172)), (22, .slice A110 n111 c112), (23, .int .i64 (x105.f2.length : Int)), (24, .int .i64 x149), (97, .slice B189 m190 d191), (98, .int .i64 (y185.1.length : Int)), (99, .int .i64 s.2)] ∧ SH r (blk g106 83 [.slice A107 n108 c109, .int .i64 x105.f1, .slice A110 n111 c112] :: blk g115 33 [.int .u64 a1.f0, .int .u64 a1.f1, .int .i64 a1.f2, .int .i64 a1.f3] :: blk g172 41 [.int .i64 x169.f0, .int .i64 x169.f1, .int .u64 x169.f2, .int .u64 x169.f3, .int .i64 x169.f4, .int .i64 x169.f5, str x169.f6, str x169.f7] :: own k41 41 A110 n111 c112 x105.f2 :: own k44 44 A210 n211 c212 s.1 :: own k44 44 B189 m190 d191 y185.1 :: zone Z187 wz188 :: L) w) ⟨A144, n145, c146, J.sub _ rfl, X⟩ ?_
     intro N206 s206 o206 G N206_ T206_ U w hLab
     obtain ⟨l213, x214⟩ := s206
     replace G : segment_Segment_Scan_l2 a1 x169 y185 l213 x214 = some o206 := G
     unfold segment_Segment_Scan_l2 at G
     try dsimp only at hLab
     obtain ⟨A210, n211, c212, J, X⟩ := hLab
     refine ws fun K215 hK215 => ?_
     refine x_v J (r_ltI rfl (J.ev rfl) (J.ev rfl)) rfl fun U J => ?_
     refine wn (hK215 _ _ ?_)
     refine wp_seq_k fun K216 hK216 => ?_
     refine c_if J rfl (fun hb217 => ?_) fun hb217 => ?_
     ·replace G := ift hb217 G
      refine wp_skip ?_
      refine hK216 _ _ ?_
      refine wp_seq_k fun K218 hK218 => ?_
      refine wp_block_k fun Kx219 hKx219 => ?_
      have hb4 : ∀ (l220 : (List S44)), segment_Segment_Scan_b4 x214 l220 = some o206 → ∀ (A221 : Option Addr) (n222 : Nat) (c223 : Nat) (U : Act) (w : World), FR 123 [] U [(0, (pP g106)), (3, (pP g115)), (7, .slice A221 n222 c223), (8, .int .i64 x179), (10, (pP g172)), (22, .slice A110 n111 c112), (23, .int .i64 (x105.f2.length : Int)), (24, .int .i64 x149), (97, .slice B189 m190 d191), (98, .int .i64 (y185.1.length : Int)), (99, .int .i64 x214)] → SH r (blk g106 83 [.slice A107 n108 c109, .int .i64 x105.f1, .slice A110 n111 c112] :: blk g115 33 [.int .u64 a1.f0, .int .u64 a1.f1, .int .i64 a1.f2, .int .i64 a1.f3] :: blk g172 41 [.int .i64 x169.f0, .int .i64 x169.f1, .int .u64 x169.f2, .int .u64 x169.f3, .int .i64 x169.f4, .int .i64 x169.f5, str x169.f6, str x169.f7] :: own k41 41 A110 n111 c112 x105.f2 :: own k44 44 A221 n222 c223 l220 :: own k44 44 B189 m190 d191 y185.1 :: zone Z187 wz188 :: L) w → Kx219 U w := by
       intro l220 G A221 n222 c223 U w J X
       unfold segment_Segment_Scan_b4 at G
       refine hKx219 _ _ ?_
       refine hK218 _ _ ?_
       refine wp_reg ?_
       obtain ⟨x224, h225, G⟩ := ltt_ G
       refine x_v (v := .int .i64 x224) J (rv_i h225 (r_add rfl (J.ev rfl) (J.ev rfl))) rfl fun U J => ?_
       refine x_m J rfl fun U J => ?_
       refine wpList_nil ?_
       cases G
       exact ⟨_, N206_ _ rfl, A221, n222, c223, J.sub _ rfl, X⟩
      refine ws fun K226 hK226 => ?_
      refine x_m J rfl fun U J => ?_
      obtain ⟨x227, h228, G⟩ := bnd G
      refine x_ia' uu22 sz44 (X.rd 5 rfl) h228 J (fun U J => ?_) rfl
      obtain ⟨cs, hV, hc229⟩ := el (X.rd 5 rfl) h228
      obtain rfl := hV
      refine x_lda' (cs := [.int .u64 x227.f0, .int .i64 x227.f1, .int .i64 x227.f2, str x227.f3, .float .f64 x227.f4]) uu44 sz44 (fun j u h => by rw [ea_add]; exact hc229 _ _ h) J (fun U J => ?_) rfl
      refine x_alloc' (cs := [.int .u64 0, .int .i64 0, .int .i64 0, str [], .float .f64 0]) zr44 J X (fun g230 U w X J => ?_) rfl
      refine x_m J rfl fun U J => ?_
      refine x_stb' 0 sz44 J X rfl (fun  U w X J => ?_) rfl
      refine wn (hK226 _ _ ?_)
      refine wp_seq_k fun K231 hK231 => ?_
      refine ws fun K232 hK232 => ?_
      refine x_fab' fa44_0 J (fun U J => ?_) rfl
      refine x_ld' uu31 (X.cell 0 rfl 0 _ rfl) J (fun U J => ?_) rfl
      refine x_fab' fa41_2 J (fun U J => ?_) rfl
      refine x_ld' uu31 (X.cell 3 rfl 2 _ rfl) J (fun U J => ?_) rfl
      refine x_m J rfl fun U J => ?_
      obtain ⟨x233, h234, G⟩ := ltt_ G
      refine x_v (v := .int .u64 x233) J (rv_i h234 (r_convI uu3 uu31 rfl (J.ev rfl))) rfl fun U J => ?_
      obtain ⟨x235, h236, G⟩ := ltt_ G
      refine x_v (v := .int .u64 x235) J (rv_i h236 (r_add rfl (J.ev rfl) (J.ev rfl))) rfl fun U J => ?_
      refine x_v J (r_neI rfl (J.ev rfl) (J.ev rfl)) rfl fun U J => ?_
      refine wn (hK232 _ _ ?_)
      refine c_if J rfl (fun hb237 => ?_) fun hb237 => ?_
      ·replace G := ift hb237 G
       refine ws fun K238 hK238 => ?_
       refine x_m J rfl fun U J => ?_
       refine x_m J rfl fun U J => ?_
       refine x_m J rfl fun U J => ?_
       refine wn (hK238 _ _ ?_)
       refine wp_ret ?_
       replace X := SH.nil_own (d := k44) (e := 44) X
       replace X := SH.pure_ h193 X
       replace X := X.pk 6 |>.pk 4
       replace X := obj83_mk (x := x105) X
       replace X := SH.optS X
       replace X := X.drop 2 |>.drop 2 |>.drop 2 |>.drop 2 |>.drop 2 |>.pk 2 |>.pk 1 |>.pk 2
       cases G
       have ht := T206_ _ rfl
       subst ht
       replace G := hR206
       replace G : some (.inr (.inr ([], 0, 3))) = some o133 := G
       cases G
       have ht := T133_ _ rfl
       subst ht
       replace G := hR133
       replace G : some ([], 0, 3) = some y := G
       cases G
       refine hQ _ _ ?_
       refine lv3 Tryd.results18 J rfl rfl rfl ?_
       exact ⟨Z187, wz188, none, 0, 0, rfl, (Sub.trans h150 h192), X⟩
      replace G := iff' hb237 G
      refine wp_skip ?_
      refine hK231 _ _ ?_
      refine ws fun K239 hK239 => ?_
      refine x_lda' (ad := ⟨g115, 0, none⟩) (cs := [.int .u64 a1.f0, .int .u64 a1.f1, .int .i64 a1.f2, .int .i64 a1.f3]) uu33 sz33 (fun j u h => by rw [add_mk, Nat.zero_add]; exact X.cell 2 rfl j u h) J (fun U J => ?_) rfl
      refine x_lda' (ad := ⟨g230, 0, none⟩) (cs := [.int .u64 x227.f0, .int .i64 x227.f1, .int .i64 x227.f2, str x227.f3, .float .f64 x227.f4]) uu44 sz44 (fun j u h => by rw [add_mk, Nat.zero_add]; exact X.cell 0 rfl j u h) J (fun U J => ?_) rfl
      obtain ⟨y240, h241, G⟩ := bnd G
      refine x_call' en16 J (F_segment_Filter_Wants (L := blk g230 44 [.int .u64 x227.f0, .int .i64 x227.f1, .int .i64 x227.f2, str x227.f3, .float .f64 x227.f4] :: blk g106 83 [.slice A107 n108 c109, .int .i64 x105.f1, .slice A110 n111 c112] :: blk g115 33 [.int .u64 a1.f0, .int .u64 a1.f1, .int .i64 a1.f2, .int .i64 a1.f3] :: blk g172 41 [.int .i64 x169.f0, .int .i64 x169.f1, .int .u64 x169.f2, .int .u64 x169.f3, .int .i64 x169.f4, .int .i64 x169.f5, str x169.f6, str x169.f7] :: own k41 41 A110 n111 c112 x105.f2 :: own k44 44 A210 n211 c212 l213 :: own k44 44 B189 m190 d191 y185.1 :: zone Z187 wz188 :: L) a1 x227 h241 X) (fun v U w hR J => ?_) rfl
      obtain ⟨rfl, X⟩ := hR
      refine wn (hK239 _ _ ?_)
      refine c_if J rfl (fun hb242 => ?_) fun hb242 => ?_
      ·replace G := ift hb242 G
       refine wp_reg ?_
       refine x_m J rfl fun U J => ?_
       refine x_lda' (ad := ⟨g230, 0, none⟩) (cs := [.int .u64 x227.f0, .int .i64 x227.f1, .int .i64 x227.f2, str x227.f3, .float .f64 x227.f4]) uu44 sz44 (fun j u h => by rw [add_mk, Nat.zero_add]; exact X.cell 0 rfl j u h) J (fun U J => ?_) rfl
       refine x_bsl' (d := k44) (e := 44) (ps := #[(0, .agg #[.int .u64 x227.f0, .int .i64 x227.f1, .int .i64 x227.f2, str x227.f3, .float .f64 x227.f4])]) (cells := [.int .u64 x227.f0, .int .i64 x227.f1, .int .i64 x227.f2, str x227.f3, .float .f64 x227.f4]) (xs := [x227]) (fun w => by kernel_rfl) rfl ⟨[.int .u64 x227.f0, .int .i64 x227.f1, .int .i64 x227.f2, str x227.f3, .float .f64 x227.f4], _, rfl, rfl, rfl⟩ J X (fun g243 U w X J => ?_) rfl
       obtain ⟨h244, G⟩ := chk_some G
       have hr := X.rd 0 rfl
       refine x_app' 6 inf44 uu22 J X hr.1 hr.2.1 h244 rfl (fun A245 n246 c247 U w X J => ?_) rfl
       refine x_m J rfl fun U J => ?_
       refine wpList_nil ?_
       replace X := X.drop 1 |>.drop 1 |>.pk 6 |>.pk 6 |>.pk 2 |>.pk 6 |>.pk 6 |>.pk 6 |>.pk 6
       exact hb4 (l213 ++ [x227]) G A245 n246 c247 U w (J.sub _ rfl) X
      replace G := iff' hb242 G
      refine wp_skip ?_
      replace X := X.drop 0
      exact hb4 l213 G A210 n211 c212 U w (J.sub _ rfl) X
     replace G := iff' hb217 G
     refine wp_exit ?_
     replace X := X.drop 2 |>.drop 4
     cases G
     exact hx206_2 l213 (T206_ _ rfl) A210 n211 c212 U w (J.sub _ rfl) X
    refine wp_seq_k fun K248 hK248 => ?_
    have hj3 : ∀ (b249 : Bool), segment_Segment_Scan_j3 a1 l147 x149 x169 x179 y185 b249 = some o133 → ∀ (U : Act) (w : World), FR 123 [] U [(0, (pP g106)), (3, (pP g115)), (7, .slice A144 n145 c146), (8, .int .i64 x179), (10, (pP g172)), (12, .slice B189 m190 d191), (14, .int .i64 y185.2.2), (22, .slice A110 n111 c112), (23, .int .i64 (x105.f2.length : Int)), (24, .int .i64 x149), (93, .bool b249)] → SH r (blk g106 83 [.slice A107 n108 c109, .int .i64 x105.f1, .slice A110 n111 c112] :: blk g115 33 [.int .u64 a1.f0, .int .u64 a1.f1, .int .i64 a1.f2, .int .i64 a1.f3] :: blk g172 41 [.int .i64 x169.f0, .int .i64 x169.f1, .int .u64 x169.f2, .int .u64 x169.f3, .int .i64 x169.f4, .int .i64 x169.f5, str x169.f6, str x169.f7] :: own k41 41 A110 n111 c112 x105.f2 :: own k44 44 A144 n145 c146 l147 :: own k44 44 B189 m190 d191 y185.1 :: zone Z187 wz188 :: L) w → K248 U w := by
     intro b249 G U w J X
     unfold segment_Segment_Scan_j3 at G
     refine hK248 _ _ ?_
     refine c_if J rfl (fun hb250 => ?_) fun hb250 => ?_
     ·replace G := ift hb250 G
      refine wp_reg ?_
      refine x_m J rfl fun U J => ?_
      refine wpList_nil ?_
      exact hj2 3 G U w (J.sub _ rfl) X
     replace G := iff' hb250 G
     refine wp_skip ?_
     exact hj2 y185.2.2 G U w (J.sub _ rfl) X
    refine wp_draw [0, 1, 3, 7, 7, 31, 63, 127, 255, 127, 639, 2047, 4095, 8191, 16383, 16383, 49151, 131071, 16383, 524287, 1048575, 2097151] [17] rfl J X (by kernel_rfl) (by kernel_rfl) (by kernel_rfl) (by kernel_rfl) fun w X => ?_
    refine bcase (b := y185.2.2 == 0) (fun hb251 => ?_) fun hb251 => ?_
    ·replace G := ift hb251 G
     refine bcase (b := y185.2.1 != x183) (fun hb252 => ?_) fun hb252 => ?_
     ·replace G := ift hb252 G
      refine ⟨[(0, .int .i64 y185.2.2), (1, .bool (y185.2.2 == 0)), (2, .bool (y185.2.2 == 0)), (3, .int .i64 y185.2.1), (4, .int .i64 x183), (5, .bool (y185.2.1 != x183)), (6, .bool (y185.2.1 != x183)), (7, undef), (8, undef), (9, undef), (10, undef), (11, undef), (12, .bool true), (13, .bool true), (14, undef), (15, undef), (16, undef), (18, undef)], ?_⟩
      refine dF [0, 1, 2, 3, 4, 5, 6, 7, 8, 9, 10, 11, 12, 13, 14, 15, 16, 18] [17] (by kernel_rfl) ⟨pm rfl, pt [(72, .int .i64 y185.2.2)] rfl (fun U J => r_eqI rfl (J.ev rfl) (J.ev rfl)), pm rfl, puOn rfl rfl rfl rfl [(13, .int .i64 y185.2.1), (74, .bool (y185.2.2 == 0))] rfl hb251 (fun U J => y_move J rfl rfl) rfl, puOn rfl rfl rfl rfl [(11, .int .i64 x183), (74, .bool (y185.2.2 == 0))] rfl hb251 (fun U J => y_move J rfl rfl) rfl, puOn rfl rfl rfl rfl [(74, .bool (y185.2.2 == 0)), (75, .int .i64 y185.2.1), (76, .int .i64 x183)] rfl hb251 (fun U J => r_neI rfl (J.ev rfl) (J.ev rfl)) rfl, puOn rfl rfl rfl rfl [(74, .bool (y185.2.2 == 0)), (77, .bool (y185.2.1 != x183))] rfl hb251 (fun U J => y_move J rfl rfl) rfl, puOff rfl rfl rfl rfl [(12, .slice B189 m190 d191), (78, .bool (y185.2.1 != x183))] rfl hb252 rfl, puOff rfl rfl rfl rfl [(78, .bool (y185.2.1 != x183)), (79, undef)] rfl hb252 rfl, puOff rfl rfl rfl rfl [(10, (pP g172)), (78, .bool (y185.2.1 != x183))] rfl hb252 rfl, puOff rfl rfl rfl rfl [(78, .bool (y185.2.1 != x183)), (81, undef)] rfl hb252 rfl, puOff rfl rfl rfl rfl [(78, .bool (y185.2.1 != x183)), (80, undef), (82, undef)] rfl hb252 rfl, puOn rfl rfl rfl rfl [(74, .bool (y185.2.2 == 0)), (78, .bool (y185.2.1 != x183)), (83, undef)] rfl hb251 (fun U J => y_pickt hb252 J rfl rfl rfl) rfl, puOn rfl rfl rfl rfl [(74, .bool (y185.2.2 == 0)), (84, .bool true)] rfl hb251 (fun U J => y_move J rfl rfl) rfl, puOff rfl rfl rfl rfl [(12, .slice B189 m190 d191), (85, .bool true)] rfl rfl rfl, puOff rfl rfl rfl rfl [(10, (pP g172)), (85, .bool true)] rfl rfl rfl, puOff rfl rfl rfl rfl [(85, .bool true), (87, undef)] rfl rfl rfl, puOff rfl rfl rfl rfl [(10, (pP g172)), (85, .bool true)] rfl rfl rfl, trivial⟩ ⟨?_, trivial⟩
      refine efOff rfl rfl rfl [(85, .bool true), (86, undef), (88, undef)] rfl [(19, undef), (20, .bool true), (21, .bool true)] rfl rfl ?_ rfl
      refine dEnd [18, 19, 20, 21] (by kernel_rfl) ⟨puOff rfl rfl rfl rfl [(10, (pP g172)), (85, .bool true)] rfl rfl rfl, puOff rfl rfl rfl rfl [(85, .bool true), (89, undef), (90, undef)] rfl rfl rfl, puOn rfl rfl rfl rfl [(74, .bool (y185.2.2 == 0)), (85, .bool true), (91, undef)] rfl hb251 (fun U J => y_pickt rfl J rfl rfl rfl) rfl, pt [(74, .bool (y185.2.2 == 0)), (92, .bool true)] rfl (fun U J => y_pickt hb251 J rfl rfl rfl), trivial⟩ ⟨by kernel_rfl, by kernel_rfl⟩ [(0, (pP g106)), (3, (pP g115)), (7, .slice A144 n145 c146), (8, .int .i64 x179), (10, (pP g172)), (12, .slice B189 m190 d191), (14, .int .i64 y185.2.2), (22, .slice A110 n111 c112), (23, .int .i64 (x105.f2.length : Int)), (24, .int .i64 x149), (75, .int .i64 y185.2.1), (76, .int .i64 x183), (77, .bool (y185.2.1 != x183)), (78, .bool (y185.2.1 != x183)), (84, .bool true), (85, .bool true), (92, .bool true), (93, .bool true)] rfl (fun U J => ?_)
      replace X := X.pk 1 |>.pk 1 |>.pk 6 |>.pk 6 |>.pk 6 |>.pk 6 |>.pk 6
      exact hj3 true G U w (J.sub _ rfl) X
     replace G := iff' hb252 G
     refine bcase (b := (y185.1.length : Int) != x169.f0) (fun hb253 => ?_) fun hb253 => ?_
     ·replace G := ift hb253 G
      refine ⟨[(0, .int .i64 y185.2.2), (1, .bool (y185.2.2 == 0)), (2, .bool (y185.2.2 == 0)), (3, .int .i64 y185.2.1), (4, .int .i64 x183), (5, .bool (y185.2.1 != x183)), (6, .bool (y185.2.1 != x183)), (7, .slice B189 m190 d191), (8, .int .i64 (y185.1.length : Int)), (9, (pP g172)), (10, .int .i64 x169.f0), (11, .bool ((y185.1.length : Int) != x169.f0)), (12, .bool ((y185.1.length : Int) != x169.f0)), (13, .bool ((y185.1.length : Int) != x169.f0)), (14, undef), (15, undef), (16, undef), (18, undef)], ?_⟩
      refine dF [0, 1, 2, 3, 4, 5, 6, 7, 8, 9, 10, 11, 12, 13, 14, 15, 16, 18] [17] (by kernel_rfl) ⟨pm rfl, pt [(72, .int .i64 y185.2.2)] rfl (fun U J => r_eqI rfl (J.ev rfl) (J.ev rfl)), pm rfl, puOn rfl rfl rfl rfl [(13, .int .i64 y185.2.1), (74, .bool (y185.2.2 == 0))] rfl hb251 (fun U J => y_move J rfl rfl) rfl, puOn rfl rfl rfl rfl [(11, .int .i64 x183), (74, .bool (y185.2.2 == 0))] rfl hb251 (fun U J => y_move J rfl rfl) rfl, puOn rfl rfl rfl rfl [(74, .bool (y185.2.2 == 0)), (75, .int .i64 y185.2.1), (76, .int .i64 x183)] rfl hb251 (fun U J => r_neI rfl (J.ev rfl) (J.ev rfl)) rfl, puOn rfl rfl rfl rfl [(74, .bool (y185.2.2 == 0)), (77, .bool (y185.2.1 != x183))] rfl hb251 (fun U J => y_move J rfl rfl) rfl, puOn rfl rfl rfl rfl [(12, .slice B189 m190 d191), (78, .bool (y185.2.1 != x183))] rfl hb252 (fun U J => y_move J rfl rfl) rfl, puOn rfl rfl rfl rfl [(78, .bool (y185.2.1 != x183)), (79, .slice B189 m190 d191)] rfl hb252 (fun U J => y_len uu22 (X.rd 0 rfl).2.1 J rfl rfl) rfl, puOn rfl rfl rfl rfl [(10, (pP g172)), (78, .bool (y185.2.1 != x183))] rfl hb252 (fun U J => y_fab fa41_0 J rfl rfl) rfl, puOn rfl rfl rfl rfl [(78, .bool (y185.2.1 != x183)), (81, (pP g172))] rfl hb252 (fun U J => y_ld uu3 (X.cell 4 rfl 0 _ rfl) J rfl rfl rfl) rfl, puOn rfl rfl rfl rfl [(78, .bool (y185.2.1 != x183)), (80, .int .i64 (y185.1.length : Int)), (82, .int .i64 x169.f0)] rfl hb252 (fun U J => r_neI rfl (J.ev rfl) (J.ev rfl)) rfl, puOn rfl rfl rfl rfl [(74, .bool (y185.2.2 == 0)), (78, .bool (y185.2.1 != x183)), (83, .bool ((y185.1.length : Int) != x169.f0))] rfl hb251 (fun U J => y_pickf hb252 J rfl rfl rfl) rfl, puOn rfl rfl rfl rfl [(74, .bool (y185.2.2 == 0)), (84, .bool ((y185.1.length : Int) != x169.f0))] rfl hb251 (fun U J => y_move J rfl rfl) rfl, puOff rfl rfl rfl rfl [(12, .slice B189 m190 d191), (85, .bool ((y185.1.length : Int) != x169.f0))] rfl hb253 rfl, puOff rfl rfl rfl rfl [(10, (pP g172)), (85, .bool ((y185.1.length : Int) != x169.f0))] rfl hb253 rfl, puOff rfl rfl rfl rfl [(85, .bool ((y185.1.length : Int) != x169.f0)), (87, undef)] rfl hb253 rfl, puOff rfl rfl rfl rfl [(10, (pP g172)), (85, .bool ((y185.1.length : Int) != x169.f0))] rfl hb253 rfl, trivial⟩ ⟨?_, trivial⟩
      refine efOff rfl rfl rfl [(85, .bool ((y185.1.length : Int) != x169.f0)), (86, undef), (88, undef)] rfl [(19, undef), (20, .bool true), (21, .bool true)] hb253 rfl ?_ rfl
      refine dEnd [18, 19, 20, 21] (by kernel_rfl) ⟨puOff rfl rfl rfl rfl [(10, (pP g172)), (85, .bool ((y185.1.length : Int) != x169.f0))] rfl hb253 rfl, puOff rfl rfl rfl rfl [(85, .bool ((y185.1.length : Int) != x169.f0)), (89, undef), (90, undef)] rfl hb253 rfl, puOn rfl rfl rfl rfl [(74, .bool (y185.2.2 == 0)), (85, .bool ((y185.1.length : Int) != x169.f0)), (91, undef)] rfl hb251 (fun U J => y_pickt hb253 J rfl rfl rfl) rfl, pt [(74, .bool (y185.2.2 == 0)), (92, .bool true)] rfl (fun U J => y_pickt hb251 J rfl rfl rfl), trivial⟩ ⟨by kernel_rfl, by kernel_rfl⟩ [(0, (pP g106)), (3, (pP g115)), (7, .slice A144 n145 c146), (8, .int .i64 x179), (10, (pP g172)), (12, .slice B189 m190 d191), (14, .int .i64 y185.2.2), (22, .slice A110 n111 c112), (23, .int .i64 (x105.f2.length : Int)), (24, .int .i64 x149), (75, .int .i64 y185.2.1), (76, .int .i64 x183), (77, .bool (y185.2.1 != x183)), (78, .bool (y185.2.1 != x183)), (79, .slice B189 m190 d191), (80, .int .i64 (y185.1.length : Int)), (81, (pP g172)), (82, .int .i64 x169.f0), (83, .bool ((y185.1.length : Int) != x169.f0)), (84, .bool ((y185.1.length : Int) != x169.f0)), (85, .bool ((y185.1.length : Int) != x169.f0)), (92, .bool true), (93, .bool true)] rfl (fun U J => ?_)
      replace X := X.pk 1 |>.pk 1 |>.pk 6 |>.pk 6 |>.pk 6 |>.pk 6 |>.pk 6
      exact hj3 true G U w (J.sub _ rfl) X
     replace G := iff' hb253 G
     refine ⟨[(0, .int .i64 y185.2.2), (1, .bool (y185.2.2 == 0)), (2, .bool (y185.2.2 == 0)), (3, .int .i64 y185.2.1), (4, .int .i64 x183), (5, .bool (y185.2.1 != x183)), (6, .bool (y185.2.1 != x183)), (7, .slice B189 m190 d191), (8, .int .i64 (y185.1.length : Int)), (9, (pP g172)), (10, .int .i64 x169.f0), (11, .bool ((y185.1.length : Int) != x169.f0)), (12, .bool ((y185.1.length : Int) != x169.f0)), (13, .bool ((y185.1.length : Int) != x169.f0)), (14, .slice B189 m190 d191), (15, .pointer (some ⟨g172, 1, none⟩)), (16, .int .i64 x169.f1), (18, .agg #[.int .i64 x169.f0, .int .i64 x169.f1, .int .u64 x169.f2, .int .u64 x169.f3, .int .i64 x169.f4, .int .i64 x169.f5, str x169.f6, str x169.f7])], ?_⟩
     refine dF [0, 1, 2, 3, 4, 5, 6, 7, 8, 9, 10, 11, 12, 13, 14, 15, 16, 18] [17] (by kernel_rfl) ⟨pm rfl, pt [(72, .int .i64 y185.2.2)] rfl (fun U J => r_eqI rfl (J.ev rfl) (J.ev rfl)), pm rfl, puOn rfl rfl rfl rfl [(13, .int .i64 y185.2.1), (74, .bool (y185.2.2 == 0))] rfl hb251 (fun U J => y_move J rfl rfl) rfl, puOn rfl rfl rfl rfl [(11, .int .i64 x183), (74, .bool (y185.2.2 == 0))] rfl hb251 (fun U J => y_move J rfl rfl) rfl, puOn rfl rfl rfl rfl [(74, .bool (y185.2.2 == 0)), (75, .int .i64 y185.2.1), (76, .int .i64 x183)] rfl hb251 (fun U J => r_neI rfl (J.ev rfl) (J.ev rfl)) rfl, puOn rfl rfl rfl rfl [(74, .bool (y185.2.2 == 0)), (77, .bool (y185.2.1 != x183))] rfl hb251 (fun U J => y_move J rfl rfl) rfl, puOn rfl rfl rfl rfl [(12, .slice B189 m190 d191), (78, .bool (y185.2.1 != x183))] rfl hb252 (fun U J => y_move J rfl rfl) rfl, puOn rfl rfl rfl rfl [(78, .bool (y185.2.1 != x183)), (79, .slice B189 m190 d191)] rfl hb252 (fun U J => y_len uu22 (X.rd 0 rfl).2.1 J rfl rfl) rfl, puOn rfl rfl rfl rfl [(10, (pP g172)), (78, .bool (y185.2.1 != x183))] rfl hb252 (fun U J => y_fab fa41_0 J rfl rfl) rfl, puOn rfl rfl rfl rfl [(78, .bool (y185.2.1 != x183)), (81, (pP g172))] rfl hb252 (fun U J => y_ld uu3 (X.cell 4 rfl 0 _ rfl) J rfl rfl rfl) rfl, puOn rfl rfl rfl rfl [(78, .bool (y185.2.1 != x183)), (80, .int .i64 (y185.1.length : Int)), (82, .int .i64 x169.f0)] rfl hb252 (fun U J => r_neI rfl (J.ev rfl) (J.ev rfl)) rfl, puOn rfl rfl rfl rfl [(74, .bool (y185.2.2 == 0)), (78, .bool (y185.2.1 != x183)), (83, .bool ((y185.1.length : Int) != x169.f0))] rfl hb251 (fun U J => y_pickf hb252 J rfl rfl rfl) rfl, puOn rfl rfl rfl rfl [(74, .bool (y185.2.2 == 0)), (84, .bool ((y185.1.length : Int) != x169.f0))] rfl hb251 (fun U J => y_move J rfl rfl) rfl, puOn rfl rfl rfl rfl [(12, .slice B189 m190 d191), (85, .bool ((y185.1.length : Int) != x169.f0))] rfl hb253 (fun U J => y_move J rfl rfl) rfl, puOn rfl rfl rfl rfl [(10, (pP g172)), (85, .bool ((y185.1.length : Int) != x169.f0))] rfl hb253 (fun U J => y_fab fa41_1 J rfl rfl) rfl, puOn rfl rfl rfl rfl [(85, .bool ((y185.1.length : Int) != x169.f0)), (87, .pointer (some ⟨g172, 1, none⟩))] rfl hb253 (fun U J => y_ld uu3 (X.cell 4 rfl 1 _ rfl) J rfl rfl rfl) rfl, puOn rfl rfl rfl rfl [(10, (pP g172)), (85, .bool ((y185.1.length : Int) != x169.f0))] rfl hb253 (fun U J => y_lda (ad := ⟨g172, 0, none⟩) (cs := [.int .i64 x169.f0, .int .i64 x169.f1, .int .u64 x169.f2, .int .u64 x169.f3, .int .i64 x169.f4, .int .i64 x169.f5, str x169.f6, str x169.f7]) uu41 sz41 (fun j u h => by rw [add_mk, Nat.zero_add]; exact X.cell 4 rfl j u h) J rfl rfl rfl) rfl, trivial⟩ ⟨efOn rfl rfl rfl [(85, .bool ((y185.1.length : Int) != x169.f0)), (86, .slice B189 m190 d191), (88, .int .i64 x169.f1)] rfl hb253 (fun U J K hK => ?_) rfl, trivial⟩
     obtain ⟨y254, h255, G⟩ := bnd G
     refine z_call' en25 J (F_segment_chunk (L := own k44 44 B189 m190 d191 y185.1 :: zone Z187 wz188 :: blk g106 83 [.slice A107 n108 c109, .int .i64 x105.f1, .slice A110 n111 c112] :: blk g115 33 [.int .u64 a1.f0, .int .u64 a1.f1, .int .i64 a1.f2, .int .i64 a1.f3] :: blk g172 41 [.int .i64 x169.f0, .int .i64 x169.f1, .int .u64 x169.f2, .int .u64 x169.f3, .int .i64 x169.f4, .int .i64 x169.f5, str x169.f6, str x169.f7] :: own k41 41 A110 n111 c112 x105.f2 :: own k44 44 A144 n145 c146 l147 :: L) y185.1 x169.f1 B189 m190 d191 h255 (RdL.own 0 rfl (X.dropN 0)) X) (fun v w hR => ?_) rfl
     obtain ⟨rfl, X⟩ := hR
     refine hK _ [(19, .bool (!eq41 y254 x169)), (20, .bool (!eq41 y254 x169)), (21, .bool (!eq41 y254 x169))] _ rfl ?_
     refine dEnd [18, 19, 20, 21] (by kernel_rfl) ⟨puOn rfl rfl rfl rfl [(10, (pP g172)), (85, .bool ((y185.1.length : Int) != x169.f0))] rfl hb253 (fun U J => y_lda (ad := ⟨g172, 0, none⟩) (cs := [.int .i64 x169.f0, .int .i64 x169.f1, .int .u64 x169.f2, .int .u64 x169.f3, .int .i64 x169.f4, .int .i64 x169.f5, str x169.f6, str x169.f7]) uu41 sz41 (fun j u h => by rw [add_mk, Nat.zero_add]; exact X.cell 4 rfl j u h) J rfl rfl rfl) rfl, puOn rfl rfl rfl rfl [(85, .bool ((y185.1.length : Int) != x169.f0)), (89, .agg #[.int .i64 y254.f0, .int .i64 y254.f1, .int .u64 y254.f2, .int .u64 y254.f3, .int .i64 y254.f4, .int .i64 y254.f5, str y254.f6, str y254.f7]), (90, .agg #[.int .i64 x169.f0, .int .i64 x169.f1, .int .u64 x169.f2, .int .u64 x169.f3, .int .i64 x169.f4, .int .i64 x169.f5, str x169.f6, str x169.f7])] rfl hb253 (fun U J => r_neA gt41 (eqs41 y254 x169) rfl (J.ev rfl) (J.ev rfl)) rfl, puOn rfl rfl rfl rfl [(74, .bool (y185.2.2 == 0)), (85, .bool ((y185.1.length : Int) != x169.f0)), (91, .bool (!eq41 y254 x169))] rfl hb251 (fun U J => y_pickf hb253 J rfl rfl rfl) rfl, pt [(74, .bool (y185.2.2 == 0)), (92, .bool (!eq41 y254 x169))] rfl (fun U J => y_pickt hb251 J rfl rfl rfl), trivial⟩ ⟨by kernel_rfl, by kernel_rfl⟩ [(0, (pP g106)), (3, (pP g115)), (7, .slice A144 n145 c146), (8, .int .i64 x179), (10, (pP g172)), (12, .slice B189 m190 d191), (14, .int .i64 y185.2.2), (22, .slice A110 n111 c112), (23, .int .i64 (x105.f2.length : Int)), (24, .int .i64 x149), (75, .int .i64 y185.2.1), (76, .int .i64 x183), (77, .bool (y185.2.1 != x183)), (78, .bool (y185.2.1 != x183)), (79, .slice B189 m190 d191), (80, .int .i64 (y185.1.length : Int)), (81, (pP g172)), (82, .int .i64 x169.f0), (83, .bool ((y185.1.length : Int) != x169.f0)), (84, .bool ((y185.1.length : Int) != x169.f0)), (85, .bool ((y185.1.length : Int) != x169.f0)), (86, .slice B189 m190 d191), (87, .pointer (some ⟨g172, 1, none⟩)), (88, .int .i64 x169.f1), (89, .agg #[.int .i64 y254.f0, .int .i64 y254.f1, .int .u64 y254.f2, .int .u64 y254.f3, .int .i64 y254.f4, .int .i64 y254.f5, str y254.f6, str y254.f7]), (90, .agg #[.int .i64 x169.f0, .int .i64 x169.f1, .int .u64 x169.f2, .int .u64 x169.f3, .int .i64 x169.f4, .int .i64 x169.f5, str x169.f6, str x169.f7]), (91, .bool (!eq41 y254 x169)), (92, .bool (!eq41 y254 x169)), (93, .bool (!eq41 y254 x169))] rfl (fun U J => ?_)
     replace X := X.pk 1 |>.pk 1 |>.pk 6 |>.pk 6 |>.pk 6 |>.pk 6 |>.pk 6
     exact hj3 (!eq41 y254 x169) G U w (J.sub _ rfl) X
    replace G := iff' hb251 G
    refine ⟨[(0, .int .i64 y185.2.2), (1, .bool (y185.2.2 == 0)), (2, .bool (y185.2.2 == 0)), (3, undef), (4, undef), (5, undef), (6, undef), (7, undef), (8, undef), (9, undef), (10, undef), (11, undef), (12, undef), (13, undef), (14, undef), (15, undef), (16, undef), (18, undef)], ?_⟩
    refine dF [0, 1, 2, 3, 4, 5, 6, 7, 8, 9, 10, 11, 12, 13, 14, 15, 16, 18] [17] (by kernel_rfl) ⟨pm rfl, pt [(72, .int .i64 y185.2.2)] rfl (fun U J => r_eqI rfl (J.ev rfl) (J.ev rfl)), pm rfl, puOff rfl rfl rfl rfl [(13, .int .i64 y185.2.1), (74, .bool (y185.2.2 == 0))] rfl hb251 rfl, puOff rfl rfl rfl rfl [(11, .int .i64 x183), (74, .bool (y185.2.2 == 0))] rfl hb251 rfl, puOff rfl rfl rfl rfl [(74, .bool (y185.2.2 == 0)), (75, undef), (76, undef)] rfl hb251 rfl, puOff rfl rfl rfl rfl [(74, .bool (y185.2.2 == 0)), (77, undef)] rfl hb251 rfl, puOffU rfl rfl rfl rfl [(12, .slice B189 m190 d191), (78, undef)] rfl rfl, puOffU rfl rfl rfl rfl [(78, undef), (79, undef)] rfl rfl, puOffU rfl rfl rfl rfl [(10, (pP g172)), (78, undef)] rfl rfl, puOffU rfl rfl rfl rfl [(78, undef), (81, undef)] rfl rfl, puOffU rfl rfl rfl rfl [(78, undef), (80, undef), (82, undef)] rfl rfl, puOff rfl rfl rfl rfl [(74, .bool (y185.2.2 == 0)), (78, undef), (83, undef)] rfl hb251 rfl, puOff rfl rfl rfl rfl [(74, .bool (y185.2.2 == 0)), (84, undef)] rfl hb251 rfl, puOffU rfl rfl rfl rfl [(12, .slice B189 m190 d191), (85, undef)] rfl rfl, puOffU rfl rfl rfl rfl [(10, (pP g172)), (85, undef)] rfl rfl, puOffU rfl rfl rfl rfl [(85, undef), (87, undef)] rfl rfl, puOffU rfl rfl rfl rfl [(10, (pP g172)), (85, undef)] rfl rfl, trivial⟩ ⟨?_, trivial⟩
    refine efOffU rfl rfl rfl [(85, undef), (86, undef), (88, undef)] rfl [(19, undef), (20, undef), (21, .bool false)] rfl ?_ rfl
    refine dEnd [18, 19, 20, 21] (by kernel_rfl) ⟨puOffU rfl rfl rfl rfl [(10, (pP g172)), (85, undef)] rfl rfl, puOffU rfl rfl rfl rfl [(85, undef), (89, undef), (90, undef)] rfl rfl, puOff rfl rfl rfl rfl [(74, .bool (y185.2.2 == 0)), (85, undef), (91, undef)] rfl hb251 rfl, pt [(74, .bool (y185.2.2 == 0)), (92, undef)] rfl (fun U J => y_pickf hb251 J rfl rfl rfl), trivial⟩ ⟨by kernel_rfl, by kernel_rfl⟩ [(0, (pP g106)), (3, (pP g115)), (7, .slice A144 n145 c146), (8, .int .i64 x179), (10, (pP g172)), (12, .slice B189 m190 d191), (14, .int .i64 y185.2.2), (22, .slice A110 n111 c112), (23, .int .i64 (x105.f2.length : Int)), (24, .int .i64 x149), (93, .bool false)] rfl (fun U J => ?_)
    replace X := X.pk 1 |>.pk 1 |>.pk 6 |>.pk 6 |>.pk 6 |>.pk 6 |>.pk 6
    exact hj3 false G U w (J.sub _ rfl) X
   refine ws fun K256 hK256 => ?_
   refine x_m J rfl fun U J => ?_
   obtain ⟨x257, h258, G⟩ := ltt_ G
   refine x_v (v := .int .i64 x257) J (rv_i h258 (r_add rfl (J.ev rfl) (J.ev rfl))) rfl fun U J => ?_
   refine x_m J rfl fun U J => ?_
   refine x_v J (r_nilCheck rfl (J.ev rfl)) rfl fun U J => ?_
   refine x_fab' fa83_2 J (fun U J => ?_) rfl
   refine x_ld' uu38 (X.cell 1 rfl 2 _ rfl) J (fun U J => ?_) rfl
   refine x_len' uu38 (X.rd 3 rfl).2.1 J (fun U J => ?_) rfl
   refine x_v J (r_ltI rfl (J.ev rfl) (J.ev rfl)) rfl fun U J => ?_
   refine wn (hK256 _ _ ?_)
   refine c_if J rfl (fun hb259 => ?_) fun hb259 => ?_
   ·replace G := ift hb259 G
    refine wp_reg ?_
    refine x_m J rfl fun U J => ?_
    refine x_v J (r_nilCheck rfl (J.ev rfl)) rfl fun U J => ?_
    refine x_fab' fa83_2 J (fun U J => ?_) rfl
    refine x_ld' uu38 (X.cell 1 rfl 2 _ rfl) J (fun U J => ?_) rfl
    refine x_m J rfl fun U J => ?_
    refine x_v (v := .int .i64 x257) J (rv_i h258 (r_add rfl (J.ev rfl) (J.ev rfl))) rfl fun U J => ?_
    obtain ⟨x260, h261, G⟩ := bnd G
    refine x_ia' uu38 sz41 (X.rd 3 rfl) h261 J (fun U J => ?_) rfl
    refine x_fae (m := x257.toNat * 8) fa41_1 J (fun U J => ?_) rfl rfl rfl rfl rfl
    obtain ⟨cs, hV, hc262⟩ := el (X.rd 3 rfl) h261
    obtain rfl := hV
    refine x_ld' uu3 (hc262 1 _ rfl) J (fun U J => ?_) rfl
    refine x_m J rfl fun U J => ?_
    refine wpList_nil ?_
    replace X := X.pk 5 |>.pk 5 |>.pk 5 |>.pk 3 |>.pk 5 |>.pk 5
    exact hj1 x260.f1 G U w (J.sub _ rfl) X
   replace G := iff' hb259 G
   refine wp_skip ?_
   replace X := X.pk 5 |>.pk 5 |>.pk 5 |>.pk 3 |>.pk 5 |>.pk 5
   exact hj1 (x105.f0.length : Int) G U w (J.sub _ rfl) X
  replace G := iff' hb154 G
  refine wp_exit ?_
  replace X := X.drop 1
  cases G
  exact hx133_0 l147 x148 (T133_ _ rfl) Z142 wz143 A144 n145 c146 h150 h151 U w (J.sub _ rfl) X
noncomputable section
set_option linter.unusedSimpArgs false
def law07_stretch_b1 (l1079 : (List S44)) : Option ((List S44)) :=
  some l1079
def law07_stretch_x1_0 (l1303 : (List S44)) : Option ((List S44)) :=
  law07_stretch_b1 l1303
def law07_stretch_b2 (x1199 : Int) (l1378 : (List S44)) : Option (((List S44) × Int) ⊕ (((List S44)))) :=
  ltt (IntKind.i64.wrap (x1199 + 1)) fun x1382 => (some (.inl (l1378, x1382)))
def law07_stretch_j1 (a0 : (List S44)) (a1 : Int) (a2 : Int) (l1195 : (List S44)) (x1199 : Int) (b1311 : Bool) : Option (((List S44) × Int) ⊕ (((List S44)))) :=
  if b1311 = true then ((at_ a0 x1199).bind fun x1385 => (ltt (IntKind.u64.wrap (l1195.length : Int)) fun x1390 => (ltt (IntKind.u64.wrap (a1 + x1390)) fun x1392 => ((r06_Form (⟨x1392, x1385.f1, x1385.f2, x1385.f3, x1385.f4⟩ : S44) a2).bind fun y1395 => (if y1395 = true then (chk (l1195.length + [(⟨x1392, x1385.f1, x1385.f2, x1385.f3, x1385.f4⟩ : S44)].length ≤ 140737488355328 / 48) (law07_stretch_b2 x1199 (l1195 ++ [(⟨x1392, x1385.f1, x1385.f2, x1385.f3, x1385.f4⟩ : S44)]))) else (law07_stretch_b2 x1199 l1195)))))) else (some (.inr (l1195)))
def law07_stretch_l1 (a0 : (List S44)) (a1 : Int) (a2 : Int) (l1195 : (List S44)) (x1199 : Int) : Option (((List S44) × Int) ⊕ (((List S44)))) :=
  if (decide (x1199 < (a0.length : Int))) = true then (law07_stretch_j1 a0 a1 a2 l1195 x1199 (decide (x1199 < 150))) else (law07_stretch_j1 a0 a1 a2 l1195 x1199 false)
def law07_stretch (a0 : (List S44)) (a1 : Int) (a2 : Int) : Option ((List S44)) :=
  (loop (fun s => law07_stretch_l1 a0 a1 a2 s.1 s.2) ([], 0)).bind fun t => law07_stretch_x1_0 t
def law07_awake_j1 (y347 : ((Option S83) × Int)) (b358 : Bool) : Option (Bool) :=
  if b358 = true then (some false) else ((segment_Segment_Chunks y347.1).bind fun y362 => (if ((y362.length : Int) == 3) = true then ((at_ y362 0).bind fun x369 => (if (x369.f0 == 64) = true then ((at_ y362 2).bind fun x373 => (if (x373.f0 == 2) = true then (some true) else (some false))) else (some false))) else (some false)))
def law07_awake_b1 (l323 : (List S44)) : Option (Bool) :=
  (segment_Write l323 1).bind fun y332 => ((segment_Open y332.1).bind fun y347 => (if (y332.2 != 0) = true then (law07_awake_j1 y347 true) else (law07_awake_j1 y347 (y347.2 != 0))))
def law07_awake_x1_0 (l429 : (List S44)) : Option (Bool) :=
  law07_awake_b1 l429
def law07_awake_l1 (l405 : (List S44)) (x409 : Int) : Option (((List S44) × Int) ⊕ (((List S44)))) :=
  if (decide (x409 < 130)) = true then (ltt (IntKind.u64.wrap x409) fun x439 => (chk (l405.length + [(⟨x439, 0, x409, [], 0⟩ : S44)].length ≤ 140737488355328 / 48) (ltt (IntKind.i64.wrap (x409 + 1)) fun x446 => (some (.inl (l405 ++ [(⟨x439, 0, x409, [], 0⟩ : S44)], x446)))))) else (some (.inr (l405)))
def law07_awake : Option (Bool) :=
  (loop (fun s => law07_awake_l1 s.1 s.2) ([], 0)).bind fun t => law07_awake_x1_0 t
end
theorem F_law07_stretch {r : World} {L : List HP} {w : World} (a0 : (List S44)) (a1 : Int) (a2 : Int) (A0 : Option Addr) (n0 : Nat) (c0 : Nat) {y : ((List S44))} (G : law07_stretch a0 a1 a2 = some y) (ha0 : RdL L k44 A0 n0 c0 a0) (X : SH r (L) w) :
  Ret Tryd.prog 13 #[.slice A0 n0 c0, .int .u64 a1, .int .i64 a2] w fun v w' => ∃ (B0 : Option Addr) (m0 : Nat) (d0 : Nat), v = .slice B0 m0 d0 ∧ SH r (own k44 44 B0 m0 d0 y :: L) w' := by
 refine enter Tryd.func13 rfl Tryd.ntmps13 [(0, .slice A0 n0 c0), (1, .int .u64 a1), (2, .int .i64 a2)] rfl (by simp) ?_
 intro U J Qf hQ hQn
 unfold law07_stretch at G
 refine ws fun K100 hK100 => ?_
 refine x_m J rfl fun U J => ?_
 refine wn (hK100 _ _ ?_)
 refine ws fun K101 hK101 => ?_
 refine x_m J rfl fun U J => ?_
 refine wn (hK101 _ _ ?_)
 refine wp_seq_k fun K102 hK102 => ?_
 refine ws fun K103 hK103 => ?_
 refine x_m J rfl fun U J => ?_
 refine wn (hK103 _ _ ?_)
 refine wp_block_k fun Kx104 hKx104 => ?_
 have hb1 : ∀ (l105 : (List S44)), law07_stretch_b1 l105 = some y → ∀ (A106 : Option Addr) (n107 : Nat) (c108 : Nat) (U : Act) (w : World), FR 38 [] U [(7, .slice A106 n107 c108)] → SH r (own k44 44 A106 n107 c108 l105 :: L) w → Kx104 U w := by
  intro l105 G A106 n107 c108 U w J X
  unfold law07_stretch_b1 at G
  refine hKx104 _ _ ?_
  refine hK102 _ _ ?_
  refine ws fun K109 hK109 => ?_
  refine x_m J rfl fun U J => ?_
  refine x_m J rfl fun U J => ?_
  refine wn (hK109 _ _ ?_)
  refine wp_ret ?_
  cases G
  refine hQ _ _ ?_
  refine lv Tryd.results13 J rfl ?_
  exact ⟨A106, n107, c108, rfl, X⟩
 obtain ⟨t110, hl110, G⟩ := bnd G
 have hx110_0 : ∀ (l111 : (List S44)), (l111) = t110 → ∀ (A112 : Option Addr) (n113 : Nat) (c110 : Nat) (U : Act) (w : World), FR 38 [] U [(7, .slice A112 n113 c110)] → SH r (own k44 44 A112 n113 c110 l111 :: L) w → Kx104 U w := by
  intro l111 ht A112 n113 c110 U w J X
  subst ht
  replace G : law07_stretch_x1_0 l111 = some y := G
  unfold law07_stretch_x1_0 at G
  exact hb1 l111 G A112 n113 c110 U w (J.sub _ rfl) X
 replace X := SH.nil_own (d := k44) (e := 44) X
 refine wp_loop_fn hl110 (fun s U w => ∃ (A114 : Option Addr) (n115 : Nat) (c116 : Nat), FR 38 [] U [(0, .slice A0 n0 c0), (1, .int .u64 a1), (2, .int .i64 a2), (7, .slice A114 n115 c116), (8, .int .i64 s.2)] ∧ SH r (own k44 44 A114 n115 c116 s.1 :: L) w) ⟨none, 0, 0, J.sub _ rfl, X⟩ ?_
 intro N110 s110 o110 G N110_ T110_ U w hLab
 obtain ⟨l117, x118⟩ := s110
 replace G : law07_stretch_l1 a0 a1 a2 l117 x118 = some o110 := G
 unfold law07_stretch_l1 at G
 try dsimp only at hLab
 obtain ⟨A114, n115, c116, J, X⟩ := hLab
 refine wp_seq_k fun K119 hK119 => ?_
 refine wp_seq_k fun K120 hK120 => ?_
 have hj1 : ∀ (b121 : Bool), law07_stretch_j1 a0 a1 a2 l117 x118 b121 = some o110 → ∀ (U : Act) (w : World), FR 38 [] U [(0, .slice A0 n0 c0), (1, .int .u64 a1), (2, .int .i64 a2), (7, .slice A114 n115 c116), (8, .int .i64 x118), (17, .bool b121)] → SH r (own k44 44 A114 n115 c116 l117 :: L) w → K120 U w := by
  intro b121 G U w J X
  unfold law07_stretch_j1 at G
  refine hK120 _ _ ?_
  refine c_if J rfl (fun hb122 => ?_) fun hb122 => ?_
  ·replace G := ift hb122 G
   refine wp_skip ?_
   refine hK119 _ _ ?_
   refine wp_seq_k fun K123 hK123 => ?_
   refine wp_block_k fun Kx124 hKx124 => ?_
   have hb2 : ∀ (l125 : (List S44)), law07_stretch_b2 x118 l125 = some o110 → ∀ (A126 : Option Addr) (n127 : Nat) (c128 : Nat) (U : Act) (w : World), FR 38 [] U [(0, .slice A0 n0 c0), (1, .int .u64 a1), (2, .int .i64 a2), (7, .slice A126 n127 c128), (8, .int .i64 x118)] → SH r (own k44 44 A126 n127 c128 l125 :: L) w → Kx124 U w := by
    intro l125 G A126 n127 c128 U w J X
    unfold law07_stretch_b2 at G
    refine hKx124 _ _ ?_
    refine hK123 _ _ ?_
    refine wp_reg ?_
    refine x_m J rfl fun U J => ?_
    obtain ⟨x129, h130, G⟩ := ltt_ G
    refine x_v (v := .int .i64 x129) J (rv_i h130 (r_add rfl (J.ev rfl) (J.ev rfl))) rfl fun U J => ?_
    refine x_m J rfl fun U J => ?_
    refine wpList_nil ?_
    cases G
    exact ⟨_, N110_ _ rfl, A126, n127, c128, J.sub _ rfl, X⟩
   refine ws fun K131 hK131 => ?_
   refine x_m J rfl fun U J => ?_
   refine x_m J rfl fun U J => ?_
   obtain ⟨x132, h133, G⟩ := bnd G
   refine x_ia' uu22 sz44 (X.rdl 1 ha0 rfl) h133 J (fun U J => ?_) rfl
   obtain ⟨cs, hV, hc134⟩ := el (X.rdl 1 ha0 rfl) h133
   obtain rfl := hV
   refine x_lda' (cs := [.int .u64 x132.f0, .int .i64 x132.f1, .int .i64 x132.f2, str x132.f3, .float .f64 x132.f4]) uu44 sz44 (fun j u h => by rw [ea_add]; exact hc134 _ _ h) J (fun U J => ?_) rfl
   refine x_alloc' (cs := [.int .u64 0, .int .i64 0, .int .i64 0, str [], .float .f64 0]) zr44 J X (fun g135 U w X J => ?_) rfl
   refine x_stb' 0 sz44 J X rfl (fun  U w X J => ?_) rfl
   refine wn (hK131 _ _ ?_)
   refine ws fun K136 hK136 => ?_
   refine x_m J rfl fun U J => ?_
   refine x_m J rfl fun U J => ?_
   refine x_len' uu22 (X.rd 1 rfl).2.1 J (fun U J => ?_) rfl
   obtain ⟨x137, h138, G⟩ := ltt_ G
   refine x_v (v := .int .u64 x137) J (rv_i h138 (r_convI uu3 uu31 rfl (J.ev rfl))) rfl fun U J => ?_
   obtain ⟨x139, h140, G⟩ := ltt_ G
   refine x_v (v := .int .u64 x139) J (rv_i h140 (r_add rfl (J.ev rfl) (J.ev rfl))) rfl fun U J => ?_
   refine x_fab' fa44_0 J (fun U J => ?_) rfl
   refine x_stb' 0 sz31 J X rfl (fun  U w X J => ?_) rfl
   refine wn (hK136 _ _ ?_)
   refine ws fun K141 hK141 => ?_
   refine x_lda' (ad := ⟨g135, 0, none⟩) (cs := [.int .u64 x139, .int .i64 x132.f1, .int .i64 x132.f2, str x132.f3, .float .f64 x132.f4]) uu44 sz44 (fun j u h => by rw [add_mk, Nat.zero_add]; exact X.cell 0 rfl j u h) J (fun U J => ?_) rfl
   refine x_m J rfl fun U J => ?_
   obtain ⟨y142, h143, G⟩ := bnd G
   refine x_call' en31 J (F_r06_Form (L := blk g135 44 [.int .u64 x139, .int .i64 x132.f1, .int .i64 x132.f2, str x132.f3, .float .f64 x132.f4] :: own k44 44 A114 n115 c116 l117 :: L) (⟨x139, x132.f1, x132.f2, x132.f3, x132.f4⟩ : S44) a2 h143 X) (fun v U w hR J => ?_) rfl
   obtain ⟨rfl, X⟩ := hR
   refine wn (hK141 _ _ ?_)
   refine c_if J rfl (fun hb144 => ?_) fun hb144 => ?_
   ·replace G := ift hb144 G
    refine wp_reg ?_
    refine x_m J rfl fun U J => ?_
    refine x_lda' (ad := ⟨g135, 0, none⟩) (cs := [.int .u64 x139, .int .i64 x132.f1, .int .i64 x132.f2, str x132.f3, .float .f64 x132.f4]) uu44 sz44 (fun j u h => by rw [add_mk, Nat.zero_add]; exact X.cell 0 rfl j u h) J (fun U J => ?_) rfl
    refine x_bsl' (d := k44) (e := 44) (ps := #[(0, .agg #[.int .u64 x139, .int .i64 x132.f1, .int .i64 x132.f2, str x132.f3, .float .f64 x132.f4])]) (cells := [.int .u64 x139, .int .i64 x132.f1, .int .i64 x132.f2, str x132.f3, .float .f64 x132.f4]) (xs := [(⟨x139, x132.f1, x132.f2, x132.f3, x132.f4⟩ : S44)]) (fun w => by kernel_rfl) rfl ⟨[.int .u64 x139, .int .i64 x132.f1, .int .i64 x132.f2, str x132.f3, .float .f64 x132.f4], _, rfl, rfl, rfl⟩ J X (fun g145 U w X J => ?_) rfl
    obtain ⟨h146, G⟩ := chk_some G
    have hr := X.rd 0 rfl
    refine x_app' 2 inf44 uu22 J X hr.1 hr.2.1 h146 rfl (fun A147 n148 c149 U w X J => ?_) rfl
    refine x_m J rfl fun U J => ?_
    refine wpList_nil ?_
    replace X := X.drop 1 |>.drop 1
    exact hb2 (l117 ++ [(⟨x139, x132.f1, x132.f2, x132.f3, x132.f4⟩ : S44)]) G A147 n148 c149 U w (J.sub _ rfl) X
   replace G := iff' hb144 G
   refine wp_skip ?_
   replace X := X.drop 0
   exact hb2 l117 G A114 n115 c116 U w (J.sub _ rfl) X
  replace G := iff' hb122 G
  refine wp_exit ?_
  cases G
  exact hx110_0 l117 (T110_ _ rfl) A114 n115 c116 U w (J.sub _ rfl) X
 refine wp_reg ?_
 refine x_m J rfl fun U J => ?_
 refine x_m J rfl fun U J => ?_
 refine x_len' uu22 (X.rdl 1 ha0 rfl).2.1 J (fun U J => ?_) rfl
 refine x_v J (r_ltI rfl (J.ev rfl) (J.ev rfl)) rfl fun U J => ?_
 refine x_m J rfl fun U J => ?_
 refine bcase (b := decide (x118 < (a0.length : Int))) (fun hb150 => ?_) fun hb150 => ?_
 ·replace G := ift hb150 G
  refine x_on' hb150 J ?_ rfl
  refine x_m J rfl fun U J => ?_
  refine x_on' hb150 J ?_ rfl
  refine x_v J (r_ltI rfl (J.ev rfl) (J.ev rfl)) rfl fun U J => ?_
  refine x_pickt' hb150 J (fun U J => ?_) rfl
  refine wpList_nil ?_
  exact hj1 (decide (x118 < 150)) G U w (J.sub _ rfl) X
 replace G := iff' hb150 G
 refine xO 2 hb150 J rfl fun U J => ?_
 refine x_pickf' hb150 J (fun U J => ?_) rfl
 refine wpList_nil ?_
 exact hj1 false G U w (J.sub _ rfl) X
theorem F_law07_awake {r : World} {L : List HP} {w : World} {Z : Nat → Prop} {wz : World} {y : (Bool)} (G : law07_awake = some y) (hG0 : Imm Z wz (kI .u32) (some ⟨0, 0, none⟩) 16 16 gl_page_table) (X : SH r (zone Z wz :: L) w) :
  Ret Tryd.prog 10 #[] w fun v w' => ∃ (Z' : Nat → Prop) (wz' : World), v = .bool y ∧ Sub Z wz Z' wz' ∧ SH r (zone Z' wz' :: L) w' := by
 refine enter Tryd.func10 rfl Tryd.ntmps10 [] rfl (by simp) ?_
 intro U J Qf hQ hQn
 unfold law07_awake at G
 refine ws fun K100 hK100 => ?_
 refine x_m J rfl fun U J => ?_
 refine wn (hK100 _ _ ?_)
 refine ws fun K101 hK101 => ?_
 refine x_m J rfl fun U J => ?_
 refine wn (hK101 _ _ ?_)
 refine wp_seq_k fun K102 hK102 => ?_
 refine ws fun K103 hK103 => ?_
 refine x_m J rfl fun U J => ?_
 refine wn (hK103 _ _ ?_)
 refine wp_block_k fun Kx104 hKx104 => ?_
 have hb1 : ∀ (l105 : (List S44)), law07_awake_b1 l105 = some y → ∀ (A106 : Option Addr) (n107 : Nat) (c108 : Nat) (U : Act) (w : World), FR 58 [] U [(1, .slice A106 n107 c108)] → SH r (own k44 44 A106 n107 c108 l105 :: zone Z wz :: L) w → Kx104 U w := by
  intro l105 G A106 n107 c108 U w J X
  unfold law07_awake_b1 at G
  refine hKx104 _ _ ?_
  refine hK102 _ _ ?_
  refine ws fun K109 hK109 => ?_
  refine x_m J rfl fun U J => ?_
  replace X := X.pk 1 |>.pk 1
  obtain ⟨Z110, wz111, X, h112, sb331⟩ := SH.freeze (n := n107) (c := c108) (A := A106) X
  obtain ⟨y113, h114, G⟩ := bnd G
  refine x_call' en11 J (F_segment_Write (L := L) l105 1 A106 n107 c108 h114 h112 (Imm.sub hG0 sb331) X) (fun v U w hR J => ?_) rfl
  obtain ⟨Z115, wz116, B117, m118, d119, rfl, h120, X⟩ := hR
  have h121 := Imm.sub h112 h120
  refine x_m J rfl fun U J => ?_
  refine x_v J (r_extract rfl (J.ev rfl) rfl) rfl fun U J => ?_
  refine x_v J (r_extract rfl (J.ev rfl) rfl) rfl fun U J => ?_
  refine x_m J rfl fun U J => ?_
  refine x_m J rfl fun U J => ?_
  refine wn (hK109 _ _ ?_)
  refine ws fun K122 hK122 => ?_
  refine x_m J rfl fun U J => ?_
  replace X := X.pk 1 |>.pk 1
  obtain ⟨Z123, wz124, X, h125, sb345⟩ := SH.freeze (n := m118) (c := d119) (A := B117) X
  have h126 := Imm.sub h121 sb345
  obtain ⟨y127, h128, G⟩ := bnd G
  refine x_call' en14 J (F_segment_Open (L := L) y113.1 B117 m118 d119 h128 h125 (Imm.sub hG0 (Sub.trans (Sub.trans sb331 h120) sb345)) X) (fun v U w hR J => ?_) rfl
  obtain ⟨Z129, wz130, p131, rfl, h132, X⟩ := hR
  have h133 := Imm.sub h126 h132
  have h134 := Imm.sub h125 h132
  refine x_m J rfl fun U J => ?_
  refine x_v J (r_extract rfl (J.ev rfl) rfl) rfl fun U J => ?_
  refine x_v J (r_extract rfl (J.ev rfl) rfl) rfl fun U J => ?_
  refine x_m J rfl fun U J => ?_
  refine x_m J rfl fun U J => ?_
  refine wn (hK122 _ _ ?_)
  refine wp_seq_k fun K135 hK135 => ?_
  refine wp_seq_k fun K136 hK136 => ?_
  have hj1 : ∀ (b137 : Bool), law07_awake_j1 y127 b137 = some y → ∀ (U : Act) (w : World), FR 58 [] U [(5, .pointer p131), (34, .bool b137)] → SH r (optP (obj83 Z129 wz130) p131 y127.1 :: zone Z129 wz130 :: L) w → K136 U w := by
   intro b137 G U w J X
   unfold law07_awake_j1 at G
   refine hK136 _ _ ?_
   refine c_if J rfl (fun hb138 => ?_) fun hb138 => ?_
   ·replace G := ift hb138 G
    refine ws fun K139 hK139 => ?_
    refine x_m J rfl fun U J => ?_
    refine wn (hK139 _ _ ?_)
    refine wp_ret ?_
    replace X := X.drop 0
    cases G
    refine hQ _ _ ?_
    refine lv Tryd.results10 J rfl ?_
    exact ⟨Z129, wz130, rfl, (Sub.trans (Sub.trans (Sub.trans sb331 h120) sb345) h132), X⟩
   replace G := iff' hb138 G
   refine wp_skip ?_
   refine hK135 _ _ ?_
   refine ws fun K140 hK140 => ?_
   refine x_m J rfl fun U J => ?_
   obtain ⟨y141, h142, G⟩ := bnd G
   refine x_call' en15 J (F_segment_Segment_Chunks (L := zone Z129 wz130 :: L) y127.1 p131 h142 0 rfl X) (fun v U w hR J => ?_) rfl
   obtain ⟨B143, m144, d145, rfl, X⟩ := hR
   refine x_m J rfl fun U J => ?_
   refine wn (hK140 _ _ ?_)
   refine ws fun K146 hK146 => ?_
   refine x_m J rfl fun U J => ?_
   refine x_len' uu38 (X.rd 0 rfl).2.1 J (fun U J => ?_) rfl
   refine x_v J (r_eqI rfl (J.ev rfl) (J.ev rfl)) rfl fun U J => ?_
   refine x_m J rfl fun U J => ?_
   refine bcase (b := (y141.length : Int) == 3) (fun hb147 => ?_) fun hb147 => ?_
   ·replace G := ift hb147 G
    refine x_on' hb147 J ?_ rfl
    refine x_m J rfl fun U J => ?_
    refine x_on' hb147 J ?_ rfl
    obtain ⟨x148, h149, G⟩ := bnd G
    refine x_ia' uu38 sz41 (X.rd 0 rfl) h149 J (fun U J => ?_) rfl
    refine x_on' hb147 J ?_ rfl
    refine x_fae (m := (0 : Int).toNat * 8) fa41_0 J (fun U J => ?_) rfl rfl rfl rfl rfl
    refine x_on' hb147 J ?_ rfl
    obtain ⟨cs, hV, hc150⟩ := el (X.rd 0 rfl) h149
    obtain rfl := hV
    refine x_ld' uu3 (hc150 0 _ rfl) J (fun U J => ?_) rfl
    refine x_on' hb147 J ?_ rfl
    refine x_v J (r_eqI rfl (J.ev rfl) (J.ev rfl)) rfl fun U J => ?_
    refine x_pickt' hb147 J (fun U J => ?_) rfl
    refine x_m J rfl fun U J => ?_
    refine bcase (b := x148.f0 == 64) (fun hb151 => ?_) fun hb151 => ?_
    ·replace G := ift hb151 G
     refine x_on' hb151 J ?_ rfl
     refine x_m J rfl fun U J => ?_
     refine x_on' hb151 J ?_ rfl
     obtain ⟨x152, h153, G⟩ := bnd G
     refine x_ia' uu38 sz41 (X.rd 0 rfl) h153 J (fun U J => ?_) rfl
     refine x_on' hb151 J ?_ rfl
     refine x_fae (m := (2 : Int).toNat * 8) fa41_0 J (fun U J => ?_) rfl rfl rfl rfl rfl
     refine x_on' hb151 J ?_ rfl
     obtain ⟨cs, hV, hc154⟩ := el (X.rd 0 rfl) h153
     obtain rfl := hV
     refine x_ld' uu3 (hc154 0 _ rfl) J (fun U J => ?_) rfl
     refine x_on' hb151 J ?_ rfl
     refine x_v J (r_eqI rfl (J.ev rfl) (J.ev rfl)) rfl fun U J => ?_
     refine x_pickt' hb151 J (fun U J => ?_) rfl
     refine x_m J rfl fun U J => ?_
     refine bcase (b := x152.f0 == 2) (fun hb155 => ?_) fun hb155 => ?_
     ·replace G := ift hb155 G
      refine x_pickt' hb155 J (fun U J => ?_) rfl
      refine x_m J rfl fun U J => ?_
      refine x_pickt' rfl J (fun U J => ?_) rfl
      refine x_m J rfl fun U J => ?_
      refine wn (hK146 _ _ ?_)
      refine wp_ret ?_
      replace X := X.drop 0 |>.drop 0
      cases G
      refine hQ _ _ ?_
      refine lv Tryd.results10 J rfl ?_
      exact ⟨Z129, wz130, rfl, (Sub.trans (Sub.trans (Sub.trans sb331 h120) sb345) h132), X⟩
     replace G := iff' hb155 G
     refine x_pickf' hb155 J (fun U J => ?_) rfl
     refine x_m J rfl fun U J => ?_
     refine x_pickf' rfl J (fun U J => ?_) rfl
     refine x_m J rfl fun U J => ?_
     refine wn (hK146 _ _ ?_)
     refine wp_ret ?_
     replace X := X.drop 0 |>.drop 0
     cases G
     refine hQ _ _ ?_
     refine lv Tryd.results10 J rfl ?_
     exact ⟨Z129, wz130, rfl, (Sub.trans (Sub.trans (Sub.trans sb331 h120) sb345) h132), X⟩
    replace G := iff' hb151 G
    refine xO 5 hb151 J rfl fun U J => ?_
    refine x_pickf' hb151 J (fun U J => ?_) rfl
    refine x_m J rfl fun U J => ?_
    refine x_pickf' rfl J (fun U J => ?_) rfl
    refine x_m J rfl fun U J => ?_
    refine x_pickf' rfl J (fun U J => ?_) rfl
    refine x_m J rfl fun U J => ?_
    refine wn (hK146 _ _ ?_)
    refine wp_ret ?_
    replace X := X.drop 0 |>.drop 0
    cases G
    refine hQ _ _ ?_
    refine lv Tryd.results10 J rfl ?_
    exact ⟨Z129, wz130, rfl, (Sub.trans (Sub.trans (Sub.trans sb331 h120) sb345) h132), X⟩
   replace G := iff' hb147 G
   refine xO 5 hb147 J rfl fun U J => ?_
   refine x_pickf' hb147 J (fun U J => ?_) rfl
   refine x_m J rfl fun U J => ?_
   refine xO 5 rfl J rfl fun U J => ?_
   refine x_pickf' rfl J (fun U J => ?_) rfl
   refine x_m J rfl fun U J => ?_
   refine x_pickf' rfl J (fun U J => ?_) rfl
   refine x_m J rfl fun U J => ?_
   refine x_pickf' rfl J (fun U J => ?_) rfl
   refine x_m J rfl fun U J => ?_
   refine wn (hK146 _ _ ?_)
   refine wp_ret ?_
   replace X := X.drop 0 |>.drop 0
   cases G
   refine hQ _ _ ?_
   refine lv Tryd.results10 J rfl ?_
   exact ⟨Z129, wz130, rfl, (Sub.trans (Sub.trans (Sub.trans sb331 h120) sb345) h132), X⟩
  refine wp_reg ?_
  refine x_m J rfl fun U J => ?_
  refine x_v J (r_neI rfl (J.ev rfl) (J.ev rfl)) rfl fun U J => ?_
  refine x_m J rfl fun U J => ?_
  refine bcase (b := y113.2 != 0) (fun hb156 => ?_) fun hb156 => ?_
  ·replace G := ift hb156 G
   refine xO 2 hb156 J rfl fun U J => ?_
   refine x_pickt' hb156 J (fun U J => ?_) rfl
   refine wpList_nil ?_
   exact hj1 true G U w (J.sub _ rfl) X
  replace G := iff' hb156 G
  refine x_on' hb156 J ?_ rfl
  refine x_m J rfl fun U J => ?_
  refine x_on' hb156 J ?_ rfl
  refine x_v J (r_neI rfl (J.ev rfl) (J.ev rfl)) rfl fun U J => ?_
  refine x_pickf' hb156 J (fun U J => ?_) rfl
  refine wpList_nil ?_
  exact hj1 (y127.2 != 0) G U w (J.sub _ rfl) X
 obtain ⟨t157, hl157, G⟩ := bnd G
 have hx157_0 : ∀ (l158 : (List S44)), (l158) = t157 → ∀ (A159 : Option Addr) (n160 : Nat) (c157 : Nat) (U : Act) (w : World), FR 58 [] U [(1, .slice A159 n160 c157)] → SH r (own k44 44 A159 n160 c157 l158 :: zone Z wz :: L) w → Kx104 U w := by
  intro l158 ht A159 n160 c157 U w J X
  subst ht
  replace G : law07_awake_x1_0 l158 = some y := G
  unfold law07_awake_x1_0 at G
  exact hb1 l158 G A159 n160 c157 U w (J.sub _ rfl) X
 replace X := SH.nil_own (d := k44) (e := 44) X
 refine wp_loop_fn hl157 (fun s U w => ∃ (A161 : Option Addr) (n162 : Nat) (c163 : Nat), FR 58 [] U [(1, .slice A161 n162 c163), (2, .int .i64 s.2)] ∧ SH r (own k44 44 A161 n162 c163 s.1 :: zone Z wz :: L) w) ⟨none, 0, 0, J.sub _ rfl, X⟩ ?_
 intro N157 s157 o157 G N157_ T157_ U w hLab
 obtain ⟨l164, x165⟩ := s157
 replace G : law07_awake_l1 l164 x165 = some o157 := G
 unfold law07_awake_l1 at G
 try dsimp only at hLab
 obtain ⟨A161, n162, c163, J, X⟩ := hLab
 refine wp_seq_k fun K166 hK166 => ?_
 refine ws fun K167 hK167 => ?_
 refine x_m J rfl fun U J => ?_
 refine x_v J (r_ltI rfl (J.ev rfl) (J.ev rfl)) rfl fun U J => ?_
 refine wn (hK167 _ _ ?_)
 refine c_if J rfl (fun hb168 => ?_) fun hb168 => ?_
 ·replace G := ift hb168 G
  refine wp_skip ?_
  refine hK166 _ _ ?_
  refine wp_seq_k fun K169 hK169 => ?_
  refine wp_block_k fun Kx170 hKx170 => ?_
  refine wp_reg ?_
  refine x_m J rfl fun U J => ?_
  refine x_m J rfl fun U J => ?_
  obtain ⟨x171, h172, G⟩ := ltt_ G
  refine x_v (v := .int .u64 x171) J (rv_i h172 (r_convI uu3 uu31 rfl (J.ev rfl))) rfl fun U J => ?_
  refine x_m J rfl fun U J => ?_
  refine x_v (v := .agg #[.int .u64 x171, .int .i64 0, .int .i64 x165, str [], .float .f64 0]) J (r_build (ps := #[(0, .int .u64 x171), (2, .int .i64 x165)]) rfl (mapev2 J rfl) (fun w => by kernel_rfl)) rfl fun U J => ?_
  refine x_bsl' (d := k44) (e := 44) (ps := #[(0, .agg #[.int .u64 x171, .int .i64 0, .int .i64 x165, str [], .float .f64 0])]) (cells := [.int .u64 x171, .int .i64 0, .int .i64 x165, str [], .float .f64 0]) (xs := [(⟨x171, 0, x165, [], 0⟩ : S44)]) (fun w => by kernel_rfl) rfl ⟨[.int .u64 x171, .int .i64 0, .int .i64 x165, str [], .float .f64 0], _, rfl, rfl, rfl⟩ J X (fun g173 U w X J => ?_) rfl
  obtain ⟨h174, G⟩ := chk_some G
  have hr := X.rd 0 rfl
  refine x_app' 1 inf44 uu22 J X hr.1 hr.2.1 h174 rfl (fun A175 n176 c177 U w X J => ?_) rfl
  refine x_m J rfl fun U J => ?_
  refine wpList_nil ?_
  refine hKx170 _ _ ?_
  refine hK169 _ _ ?_
  refine wp_reg ?_
  refine x_m J rfl fun U J => ?_
  obtain ⟨x178, h179, G⟩ := ltt_ G
  refine x_v (v := .int .i64 x178) J (rv_i h179 (r_add rfl (J.ev rfl) (J.ev rfl))) rfl fun U J => ?_
  refine x_m J rfl fun U J => ?_
  refine wpList_nil ?_
  replace X := X.drop 1
  cases G
  exact ⟨_, N157_ _ rfl, A175, n176, c177, J.sub _ rfl, X⟩
 replace G := iff' hb168 G
 refine wp_exit ?_
 cases G
 exact hx157_0 l164 (T157_ _ rfl) A161 n162 c163 U w (J.sub _ rfl) X
end Go.Proofs.YteodeedejjcmgaaDoor.M
