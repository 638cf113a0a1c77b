/- Texts of the claim, joined: what it uses of Mss, Drs, Mrs, Drn, Mrn, Dsh, Msh, DlSegmentNil, MlSegmentNil, LSegmentNil, DlSegmentWrites, DlSegmentChunks, DlSegmentTurned, DlSegmentPrunes, DlSegmentParted, DlSegmentScans, Qa, Qb, Qc, Qd, Qe, Qf, Qg, Qh, Qi, Qj, Qk, Qm, Qn, Qo, Qp, Qq. -/
import Derived.Test.YteodeedejjcmgaaDoorZh
import Derived.Test.YteodeedejjcmgaaDoorCards
import Derived.Test.YteodeedejjcmgaaDoorTie
import Derived.SevenTiedAt
import Derived.LaidMore
import Derived.OpenShut
import Derived.Stop.Joined
import Derived.ProofKit
import Derived.IntWalk
namespace Go.Proofs.YteodeedejjcmgaaDoor.M
open Go Go.RowKit Go.Proofs.YteodeedejjcmgaaDoor.E
set_option linter.unusedVariables false
set_option maxRecDepth 100000
set_option maxHeartbeats 4000000
set_option linter.unusedSimpArgs false
theorem F_segment_Segment_Scan {r : World} {L : List HP} {w : World} {Z : Nat → Prop} {wz : World} (a0 : (Option S83)) (a1 : S33) (p0 : Option Addr) {y : ((List S44) × Int × Int)} (hF : segment_Segment_Scan a0 a1 = some y) (hG0 : Imm Z wz (kI .u32) (some ⟨0, 0, none⟩) 16 16 gl_page_table) (hS : SH r (optP (obj83 Z wz) p0 a0 :: zone Z wz :: L) w) :
  Ret Tryd.prog 18 #[.pointer p0, .agg #[.int .u64 a1.f0, .int .u64 a1.f1, .int .i64 a1.f2, .int .i64 a1.f3]] w fun v w' => ∃ (Z' : Nat → Prop) (wz' : World) (B0 : Option Addr) (m0 : Nat) (d0 : Nat), v = .tuple #[(.slice B0 m0 d0), (.int .i64 y.2.1), (.int .i64 y.2.2)] ∧ Sub Z wz Z' wz' ∧ SH r (own k44 44 B0 m0 d0 y.1 :: optP (obj83 Z' wz') p0 a0 :: zone Z' wz' :: L) w' := by
 refine enter Tryd.func18 rfl Tryd.ntmps18 [(0, .pointer p0), (1, .agg #[.int .u64 a1.f0, .int .u64 a1.f1, .int .i64 a1.f2, .int .i64 a1.f3])] rfl (by simp) ?_
 intro ac hA Qf hQ hQn
 unfold segment_Segment_Scan at hF
 cases a0 with
 | none =>
  have hU := SH.unoptN hS
  clear hS
  obtain ⟨rfl, hS⟩ := hU
  refine ws fun K103 hK103 => ?_
  refine x_box hA hS (fun g104 ac w hS hA => ?_) rfl rfl rfl rfl rfl rfl
  refine x_m hA rfl fun ac hA => ?_
  refine x_m hA rfl fun ac hA => ?_
  refine x_m hA rfl fun ac hA => ?_
  refine wn (hK103 _ _ ?_)
  refine wp_seq_k fun K105 hK105 => ?_
  refine ws fun K106 hK106 => ?_
  refine x_m hA rfl fun ac hA => ?_
  refine x_v (v := .bool true) hA (r_eqNilP (p := none) Tryd.underlying35 rfl (hA.ev rfl) (hA.ev rfl)) rfl fun ac hA => ?_
  refine wn (hK106 _ _ ?_)
  refine c_t (b := true) rfl hA ?_ rfl
  refine ws fun K107 hK107 => ?_
  refine x_m hA rfl fun ac hA => ?_
  refine x_m hA rfl fun ac hA => ?_
  refine x_m hA rfl fun ac hA => ?_
  refine wn (hK107 _ _ ?_)
  refine wp_ret ?_
  replace hS := SH.nil_own (d := k44) (e := 44) hS
  replace hS := SH.optN (obj83 Z wz) hS
  replace hS := hS.drop 2
  replace hS := hS.pk 2
  replace hS := hS.pk 1
  replace hS := hS.pk 2
  cases hF
  refine hQ _ _ ?_
  refine lv3 Tryd.results18 hA rfl rfl rfl ?_
  exact ⟨Z, wz, none, 0, 0, rfl, (Sub.refl _ _), hS⟩
 | some x101 =>
  have hU := SH.unoptS hS
  clear hS
  obtain ⟨g102, rfl, hS⟩ := hU
  obtain ⟨A108, n109, c110, A112, n113, c114, hS⟩ := obj83_open hS
  replace hS := hS.pk 2
  have hQ0 := SH.unpure hS
  clear hS
  obtain ⟨h111, hS⟩ := hQ0
  refine ws fun K115 hK115 => ?_
  refine x_box hA hS (fun g116 ac w hS hA => ?_) rfl rfl rfl rfl rfl rfl
  refine x_m hA rfl fun ac hA => ?_
  refine x_m hA rfl fun ac hA => ?_
  refine x_m hA rfl fun ac hA => ?_
  refine wn (hK115 _ _ ?_)
  refine wp_seq_k fun K117 hK117 => ?_
  refine ws fun K118 hK118 => ?_
  refine x_m hA rfl fun ac hA => ?_
  refine x_v (v := .bool false) hA (r_eqNilP (p := some ⟨g102, 0, none⟩) Tryd.underlying35 rfl (hA.ev rfl) (hA.ev rfl)) rfl fun ac hA => ?_
  refine wn (hK118 _ _ ?_)
  refine c_f (b := false) rfl hA ?_ rfl
  refine wp_skip ?_
  refine hK117 _ _ ?_
  refine ws fun K119 hK119 => ?_
  refine x_m hA rfl fun ac hA => ?_
  refine wn (hK119 _ _ ?_)
  refine ws fun K120 hK120 => ?_
  refine x_m hA rfl fun ac hA => ?_
  refine wn (hK120 _ _ ?_)
  refine wp_seq_k fun K121 hK121 => ?_
  refine ws fun K18582 hK18582 => ?_
  refine x_m hA rfl fun ac hA => ?_
  refine x_v hA (r_nilCheck rfl (hA.ev rfl)) rfl fun ac hA => ?_
  refine x_fab fa83_2 hA (fun ac hA => ?_) rfl rfl rfl rfl rfl
  refine x_ld Tryd.underlying38 (hS.cell 1 rfl 2 _ rfl) hA (fun ac hA => ?_) rfl rfl rfl rfl rfl rfl
  refine x_len Tryd.underlying38 (hS.rd 2 rfl).2.1 hA (fun ac hA => ?_) rfl rfl rfl rfl rfl
  refine x_m hA rfl fun ac hA => ?_
  refine wn (hK18582 _ _ ?_)
  refine wp_block_k fun Kx18583 hKx18583 => ?_
  have hb1 : ∀ (l27812 : (List S44)) (x27816 : Int), segment_Segment_Scan_b1 l27812 x27816 = some y → ∀ (Z27808 : Nat → Prop) (wz27809 : World) (A27813 : Option Addr) (n27814 : Nat) (c27815 : Nat) (h27810 : Sub Z wz Z27808 wz27809) (h27811 : Imm Z27808 wz27809 (kI .u8) A108 n109 c110 x101.f0) (ac : Act) (w : World), FR 123 [] ac [(0, .pointer (some ⟨g102, 0, none⟩)), (7, .slice A27813 n27814 c27815), (8, .int .i64 x27816)] → SH r (blk g102 83 [.slice A108 n109 c110, .int .i64 x101.f1, .slice A112 n113 c114] :: own k41 41 A112 n113 c114 x101.f2 :: own k44 44 A27813 n27814 c27815 l27812 :: zone Z27808 wz27809 :: L) w → Kx18583 ac w := by
   intro l27812 x27816 hF Z27808 wz27809 A27813 n27814 c27815 h27810 h27811 ac w hA hS
   unfold segment_Segment_Scan_b1 at hF
   refine hKx18583 _ _ ?_
   refine hK121 _ _ ?_
   refine ws fun K27817 hK27817 => ?_
   refine x_m hA rfl fun ac hA => ?_
   refine x_m hA rfl fun ac hA => ?_
   refine x_m hA rfl fun ac hA => ?_
   refine x_m hA rfl fun ac hA => ?_
   refine x_m hA rfl fun ac hA => ?_
   refine wn (hK27817 _ _ ?_)
   refine wp_ret ?_
   replace hS := SH.pure_ h27811 hS
   replace hS := hS.pk 2
   replace hS := hS.pk 2
   replace hS := obj83_mk (x := x101) hS
   replace hS := SH.optS hS
   replace hS := hS.pk 2
   replace hS := hS.pk 1
   replace hS := hS.pk 2
   cases hF
   refine hQ _ _ ?_
   refine lv3 Tryd.results18 hA rfl rfl rfl ?_
   exact ⟨Z27808, wz27809, A27813, n27814, c27815, rfl, h27810, hS⟩
  obtain ⟨t33976, hl33976, hF⟩ := bnd hF
  have hR33976 := hF
  have hx33976_0 : ∀ (l33972 : (List S44)) (x33976 : Int), (.inl (l33972, x33976)) = t33976 → ∀ (Z33968 : Nat → Prop) (wz33969 : World) (A33973 : Option Addr) (n33974 : Nat) (c33975 : Nat) (h33970 : Sub Z wz Z33968 wz33969) (h33971 : Imm Z33968 wz33969 (kI .u8) A108 n109 c110 x101.f0) (ac : Act) (w : World), FR 123 [] ac [(0, .pointer (some ⟨g102, 0, none⟩)), (7, .slice A33973 n33974 c33975), (8, .int .i64 x33976)] → SH r (blk g102 83 [.slice A108 n109 c110, .int .i64 x101.f1, .slice A112 n113 c114] :: own k41 41 A112 n113 c114 x101.f2 :: own k44 44 A33973 n33974 c33975 l33972 :: zone Z33968 wz33969 :: L) w → Kx18583 ac w := by
   intro l33972 x33976 ht Z33968 wz33969 A33973 n33974 c33975 h33970 h33971 ac w hA hS
   subst ht
   replace hF : segment_Segment_Scan_x1_0 l33972 x33976 = some y := hF
   unfold segment_Segment_Scan_x1_0 at hF
   exact hb1 l33972 x33976 hF Z33968 wz33969 A33973 n33974 c33975 h33970 h33971 ac w (hA.sub _ rfl) hS
  replace hS := SH.nil_own (d := k44) (e := 44) hS
  replace hS := hS.pk 4
  replace hS := hS.pk 1
  replace hS := hS.pk 4
  replace hS := hS.pk 3
  replace hS := hS.pk 4
  refine wp_loop_fn hl33976 (fun s ac w => ∃ (Z30884 : Nat → Prop) (wz30885 : World) (A30889 : Option Addr) (n30890 : Nat) (c30891 : Nat), Sub Z wz Z30884 wz30885 ∧ Imm Z30884 wz30885 (kI .u8) A108 n109 c110 x101.f0 ∧ FR 123 [] ac [(0, .pointer (some ⟨g102, 0, none⟩)), (3, .pointer (some ⟨g116, 0, none⟩)), (7, .slice A30889 n30890 c30891), (8, .int .i64 s.2.1), (22, .slice A112 n113 c114), (23, .int .i64 (x101.f2.length : Int)), (24, .int .i64 s.2.2)] ∧ SH r (blk g102 83 [.slice A108 n109 c110, .int .i64 x101.f1, .slice A112 n113 c114] :: blk g116 33 [.int .u64 a1.f0, .int .u64 a1.f1, .int .i64 a1.f2, .int .i64 a1.f3] :: own k41 41 A112 n113 c114 x101.f2 :: own k44 44 A30889 n30890 c30891 s.1 :: zone Z30884 wz30885 :: L) w) ⟨Z, wz, none, 0, 0, (Sub.refl _ _), h111, hA.sub _ rfl, hS⟩ ?_
  intro N33976 s33976 o33976 hF N33976_ T33976_ ac w hLab
  obtain ⟨l30888, x30892, x30893⟩ := s33976
  replace hF : segment_Segment_Scan_l1 a1 x101 l30888 x30892 x30893 = some o33976 := hF
  unfold segment_Segment_Scan_l1 at hF
  try dsimp only at hLab
  obtain ⟨Z30884, wz30885, A30889, n30890, c30891, h30886, h30887, hA, hS⟩ := hLab
  refine ws fun K33978 hK33978 => ?_
  refine x_v hA (r_ltI rfl (hA.ev rfl) (hA.ev rfl)) rfl fun ac hA => ?_
  refine wn (hK33978 _ _ ?_)
  refine wp_seq_k fun K33979 hK33979 => ?_
  refine c_if hA rfl (fun hb33980 => ?_) fun hb33980 => ?_
  ·replace hF := ift hb33980 hF
   refine wp_skip ?_
   refine hK33979 _ _ ?_
   refine wp_seq_k fun K33981 hK33981 => ?_
   refine wp_block_k fun Kx35511 hKx35511 => ?_
   have hb2 : ∀ (l36275 : (List S44)) (x36279 : Int), segment_Segment_Scan_b2 x30893 l36275 x36279 = some o33976 → ∀ (Z36271 : Nat → Prop) (wz36272 : World) (A36276 : Option Addr) (n36277 : Nat) (c36278 : Nat) (h36273 : Sub Z wz Z36271 wz36272) (h36274 : Imm Z36271 wz36272 (kI .u8) A108 n109 c110 x101.f0) (ac : Act) (w : World), FR 123 [] ac [(0, .pointer (some ⟨g102, 0, none⟩)), (3, .pointer (some ⟨g116, 0, none⟩)), (7, .slice A36276 n36277 c36278), (8, .int .i64 x36279), (22, .slice A112 n113 c114), (23, .int .i64 (x101.f2.length : Int)), (24, .int .i64 x30893)] → SH r (blk g102 83 [.slice A108 n109 c110, .int .i64 x101.f1, .slice A112 n113 c114] :: blk g116 33 [.int .u64 a1.f0, .int .u64 a1.f1, .int .i64 a1.f2, .int .i64 a1.f3] :: own k41 41 A112 n113 c114 x101.f2 :: own k44 44 A36276 n36277 c36278 l36275 :: zone Z36271 wz36272 :: L) w → Kx35511 ac w := by
    intro l36275 x36279 hF Z36271 wz36272 A36276 n36277 c36278 h36273 h36274 ac w hA hS
    unfold segment_Segment_Scan_b2 at hF
    refine hKx35511 _ _ ?_
    refine hK33981 _ _ ?_
    refine wp_reg ?_
    obtain ⟨x36280, h36281, hF⟩ := ltt_ hF
    refine x_v (v := .int .i64 x36280) hA (rv_i h36281 (r_add rfl (hA.ev rfl) (hA.ev rfl))) rfl fun ac hA => ?_
    refine x_m hA rfl fun ac hA => ?_
    refine wpList_nil ?_
    cases hF
    exact ⟨_, N33976_ _ rfl, Z36271, wz36272, A36276, n36277, c36278, h36273, h36274, hA.sub _ rfl, hS⟩
   refine ws fun K36282 hK36282 => ?_
   refine x_m hA rfl fun ac hA => ?_
   obtain ⟨x36283, h36284, hF⟩ := bnd hF
   refine x_ia Tryd.underlying38 sz41 (hS.rd 2 rfl) h36284 hA (fun ac hA => ?_) rfl rfl rfl rfl rfl rfl
   obtain ⟨cs, hV, hc36285⟩ := el (hS.rd 2 rfl) h36284
   obtain rfl := hV
   refine x_lda (cs := [.int .i64 x36283.f0, .int .i64 x36283.f1, .int .u64 x36283.f2, .int .u64 x36283.f3, .int .i64 x36283.f4, .int .i64 x36283.f5, str x36283.f6, str x36283.f7]) Tryd.underlying41 sz41 (fun j u h => by rw [ea_add]; exact hc36285 _ _ h) hA (fun ac hA => ?_) rfl rfl rfl rfl rfl rfl
   refine x_alloc (cs := [.int .i64 0, .int .i64 0, .int .u64 0, .int .u64 0, .int .i64 0, .int .i64 0, str [], str []]) zr41 hA hS (fun g36286 ac w hS hA => ?_) rfl rfl rfl rfl rfl
   refine x_m hA rfl fun ac hA => ?_
   refine x_stb 0 sz41 hA hS rfl (fun  ac w hS hA => ?_) rfl rfl rfl rfl rfl rfl rfl rfl
   refine wn (hK36282 _ _ ?_)
   refine wp_seq_k fun K36287 hK36287 => ?_
   refine ws fun K36288 hK36288 => ?_
   refine x_lda (ad := ⟨g116, 0, none⟩) (cs := [.int .u64 a1.f0, .int .u64 a1.f1, .int .i64 a1.f2, .int .i64 a1.f3]) Tryd.underlying33 sz33 (fun j u h => by rw [add_mk, Nat.zero_add]; exact hS.cell 2 rfl j u h) hA (fun ac hA => ?_) rfl rfl rfl rfl rfl rfl
   refine x_lda (ad := ⟨g36286, 0, none⟩) (cs := [.int .i64 x36283.f0, .int .i64 x36283.f1, .int .u64 x36283.f2, .int .u64 x36283.f3, .int .i64 x36283.f4, .int .i64 x36283.f5, str x36283.f6, str x36283.f7]) Tryd.underlying41 sz41 (fun j u h => by rw [add_mk, Nat.zero_add]; exact hS.cell 0 rfl j u h) hA (fun ac hA => ?_) rfl rfl rfl rfl rfl rfl
   obtain ⟨y36289, h36290, hF⟩ := bnd hF
   refine x_call en17 hA (F_segment_Filter_May (L := blk g36286 41 [.int .i64 x36283.f0, .int .i64 x36283.f1, .int .u64 x36283.f2, .int .u64 x36283.f3, .int .i64 x36283.f4, .int .i64 x36283.f5, str x36283.f6, str x36283.f7] :: blk g102 83 [.slice A108 n109 c110, .int .i64 x101.f1, .slice A112 n113 c114] :: blk g116 33 [.int .u64 a1.f0, .int .u64 a1.f1, .int .i64 a1.f2, .int .i64 a1.f3] :: own k41 41 A112 n113 c114 x101.f2 :: own k44 44 A30889 n30890 c30891 l30888 :: zone Z30884 wz30885 :: L) a1 x36283 h36290 hS) (fun v ac w hR hA => ?_) rfl rfl rfl rfl rfl
   obtain ⟨rfl, hS⟩ := hR
   refine x_v hA (r_not rfl (hA.ev rfl)) rfl fun ac hA => ?_
   refine wn (hK36288 _ _ ?_)
   refine c_if hA rfl (fun hb36291 => ?_) fun hb36291 => ?_
   ·replace hF := ift hb36291 hF
    refine wp_exit ?_
    replace hS := hS.drop 0
    exact hb2 l30888 x30892 hF Z30884 wz30885 A30889 n30890 c30891 h30886 h30887 ac w (hA.sub _ rfl) hS
   replace hF := iff' hb36291 hF
   refine wp_skip ?_
   refine hK36287 _ _ ?_
   refine ws fun K36292 hK36292 => ?_
   refine x_m hA rfl fun ac hA => ?_
   obtain ⟨x36293, h36294, hF⟩ := ltt_ hF
   refine x_v (v := .int .i64 x36293) hA (rv_i h36294 (r_add rfl (hA.ev rfl) (hA.ev rfl))) rfl fun ac hA => ?_
   refine x_m hA rfl fun ac hA => ?_
   refine wn (hK36292 _ _ ?_)
   refine ws fun K36295 hK36295 => ?_
   refine x_m hA rfl fun ac hA => ?_
   refine x_v hA (r_nilCheck rfl (hA.ev rfl)) rfl fun ac hA => ?_
   refine x_fab fa83_0 hA (fun ac hA => ?_) rfl rfl rfl rfl rfl
   refine x_ld Tryd.underlying24 (hS.cell 1 rfl 0 _ rfl) hA (fun ac hA => ?_) rfl rfl rfl rfl rfl rfl
   refine x_len Tryd.underlying24 (hS.imm 5 h30887 rfl).2.1 hA (fun ac hA => ?_) rfl rfl rfl rfl rfl
   refine x_m hA rfl fun ac hA => ?_
   refine wn (hK36295 _ _ ?_)
   refine wp_seq_k fun K36296 hK36296 => ?_
   have hj1 : ∀ (x36304 : Int), segment_Segment_Scan_j1 a1 x101 l30888 x30893 x36283 x36293 x36304 = some o33976 → ∀ (ac : Act) (w : World), FR 123 [] ac [(0, .pointer (some ⟨g102, 0, none⟩)), (3, .pointer (some ⟨g116, 0, none⟩)), (7, .slice A30889 n30890 c30891), (8, .int .i64 x36293), (10, .pointer (some ⟨g36286, 0, none⟩)), (11, .int .i64 x36304), (22, .slice A112 n113 c114), (23, .int .i64 (x101.f2.length : Int)), (24, .int .i64 x30893)] → SH r (blk g102 83 [.slice A108 n109 c110, .int .i64 x101.f1, .slice A112 n113 c114] :: blk g116 33 [.int .u64 a1.f0, .int .u64 a1.f1, .int .i64 a1.f2, .int .i64 a1.f3] :: blk g36286 41 [.int .i64 x36283.f0, .int .i64 x36283.f1, .int .u64 x36283.f2, .int .u64 x36283.f3, .int .i64 x36283.f4, .int .i64 x36283.f5, str x36283.f6, str x36283.f7] :: own k41 41 A112 n113 c114 x101.f2 :: own k44 44 A30889 n30890 c30891 l30888 :: zone Z30884 wz30885 :: L) w → K36296 ac w := by
    intro x36304 hF ac w hA hS
    unfold segment_Segment_Scan_j1 at hF
    refine hK36296 _ _ ?_
    refine wp_seq_k fun K36305 hK36305 => ?_
    refine wp_draw [0, 1, 3, 7, 0, 16, 0, 64, 192, 448, 1023, 2047, 4095, 4095, 4095, 8191, 49151, 131071] [10] rfl hA hS (by kernel_rfl) (by kernel_rfl) (by kernel_rfl) (by kernel_rfl) fun w hS => ?_
    refine ⟨[(0, .pointer (some ⟨g102, 0, none⟩)), (1, .pointer (some ⟨g102, 0, none⟩)), (2, .pointer (some ⟨g102, 0, none⟩)), (3, .slice A108 n109 c110), (4, .pointer (some ⟨g36286, 1, none⟩)), (5, .int .i64 x36283.f1), (6, .pointer (some ⟨g102, 0, none⟩)), (7, .pointer (some ⟨g102, 0, none⟩)), (8, .pointer (some ⟨g102, 1, none⟩)), (9, .int .i64 x101.f1)], ?_⟩
    refine dEff [0, 1, 2, 3, 4, 5, 6, 7, 8, 9] [10] (by kernel_rfl) ⟨pu rfl rfl [(0, .pointer (some ⟨g102, 0, none⟩))] (fun ac hA => y_move hA rfl rfl) rfl rfl, pu rfl rfl [(58, .pointer (some ⟨g102, 0, none⟩))] (fun ac hA => r_nilCheck rfl (hA.ev rfl)) rfl rfl, pu rfl rfl [(59, .pointer (some ⟨g102, 0, none⟩))] (fun ac hA => y_fab fa83_0 hA rfl rfl) rfl rfl, pu rfl rfl [(60, .pointer (some ⟨g102, 0, none⟩))] (fun ac hA => y_ld Tryd.underlying24 (hS.cell 0 rfl 0 _ rfl) hA rfl rfl rfl) rfl rfl, pu rfl rfl [(10, .pointer (some ⟨g36286, 0, none⟩))] (fun ac hA => y_fab fa41_1 hA rfl rfl) rfl rfl, pu rfl rfl [(62, .pointer (some ⟨g36286, 1, none⟩))] (fun ac hA => y_ld Tryd.underlying3 (hS.cell 2 rfl 1 _ rfl) hA rfl rfl rfl) rfl rfl, pu rfl rfl [(0, .pointer (some ⟨g102, 0, none⟩))] (fun ac hA => y_move hA rfl rfl) rfl rfl, pu rfl rfl [(64, .pointer (some ⟨g102, 0, none⟩))] (fun ac hA => r_nilCheck rfl (hA.ev rfl)) rfl rfl, pu rfl rfl [(65, .pointer (some ⟨g102, 0, none⟩))] (fun ac hA => y_fab fa83_1 hA rfl rfl) rfl rfl, pu rfl rfl [(66, .pointer (some ⟨g102, 1, none⟩))] (fun ac hA => y_ld Tryd.underlying3 (hS.cell 0 rfl 1 _ rfl) hA rfl rfl rfl) rfl rfl, trivial⟩ (by kernel_rfl) (by kernel_rfl) ⟨ef rfl [(61, .slice A108 n109 c110), (63, .int .i64 x36283.f1), (67, .int .i64 x101.f1)] (fun ac hA K hK => ?_) rfl rfl, trivial⟩
    replace hS := hS.pk 5
    obtain ⟨y36306, h36307, hF⟩ := bnd hF
    refine z_call en42 hA (F_event_Read (L := blk g102 83 [.slice A108 n109 c110, .int .i64 x101.f1, .slice A112 n113 c114] :: blk g116 33 [.int .u64 a1.f0, .int .u64 a1.f1, .int .i64 a1.f2, .int .i64 a1.f3] :: blk g36286 41 [.int .i64 x36283.f0, .int .i64 x36283.f1, .int .u64 x36283.f2, .int .u64 x36283.f3, .int .i64 x36283.f4, .int .i64 x36283.f5, str x36283.f6, str x36283.f7] :: own k41 41 A112 n113 c114 x101.f2 :: own k44 44 A30889 n30890 c30891 l30888 :: L) x101.f0 x36283.f1 x101.f1 A108 n109 c110 h36307 h30887 (Imm.sub hG0 h30886) hS) (fun v w hR => ?_) rfl rfl
    obtain ⟨Z36308, wz36309, B36310, m36311, d36312, rfl, h36313, hS⟩ := hR
    have h36314 := Imm.sub h30887 h36313
    refine hK _ [(11, .tuple #[(.slice B36310 m36311 d36312), (.int .i64 y36306.2.1), (.int .i64 y36306.2.2)]), (12, .slice B36310 m36311 d36312), (13, .int .i64 y36306.2.1), (14, .int .i64 y36306.2.2), (15, .slice B36310 m36311 d36312), (16, .int .i64 y36306.2.1), (17, .int .i64 y36306.2.2)] _ rfl ?_
    refine dEnd [11, 12, 13, 14, 15, 16, 17] (by kernel_rfl) ⟨pu rfl rfl [(68, .tuple #[(.slice B36310 m36311 d36312), (.int .i64 y36306.2.1), (.int .i64 y36306.2.2)])] (fun ac hA => y_move hA rfl rfl) rfl rfl, pu rfl rfl [(57, .tuple #[(.slice B36310 m36311 d36312), (.int .i64 y36306.2.1), (.int .i64 y36306.2.2)])] (fun ac hA => r_extract rfl (hA.ev rfl) rfl) rfl rfl, pu rfl rfl [(57, .tuple #[(.slice B36310 m36311 d36312), (.int .i64 y36306.2.1), (.int .i64 y36306.2.2)])] (fun ac hA => r_extract rfl (hA.ev rfl) rfl) rfl rfl, pu rfl rfl [(57, .tuple #[(.slice B36310 m36311 d36312), (.int .i64 y36306.2.1), (.int .i64 y36306.2.2)])] (fun ac hA => r_extract rfl (hA.ev rfl) rfl) rfl rfl, pu rfl rfl [(69, .slice B36310 m36311 d36312)] (fun ac hA => y_assign hA rfl rfl) rfl rfl, pu rfl rfl [(70, .int .i64 y36306.2.1)] (fun ac hA => y_assign hA rfl rfl) rfl rfl, pu rfl rfl [(71, .int .i64 y36306.2.2)] (fun ac hA => y_assign hA rfl rfl) rfl rfl, trivial⟩ ⟨by kernel_rfl, by kernel_rfl⟩ [(0, .pointer (some ⟨g102, 0, none⟩)), (3, .pointer (some ⟨g116, 0, none⟩)), (7, .slice A30889 n30890 c30891), (8, .int .i64 x36293), (10, .pointer (some ⟨g36286, 0, none⟩)), (11, .int .i64 x36304), (12, .slice B36310 m36311 d36312), (13, .int .i64 y36306.2.1), (14, .int .i64 y36306.2.2), (22, .slice A112 n113 c114), (23, .int .i64 (x101.f2.length : Int)), (24, .int .i64 x30893)] rfl (fun ac hA => ?_)
    refine hK36305 _ _ ?_
    refine wp_seq_k fun K36315 hK36315 => ?_
    have hj2 : ∀ (x36330 : Int), segment_Segment_Scan_j2 a1 l30888 x30893 x36283 x36293 y36306 x36330 = some o33976 → ∀ (ac : Act) (w : World), FR 123 [] ac [(0, .pointer (some ⟨g102, 0, none⟩)), (3, .pointer (some ⟨g116, 0, none⟩)), (7, .slice A30889 n30890 c30891), (8, .int .i64 x36293), (10, .pointer (some ⟨g36286, 0, none⟩)), (12, .slice B36310 m36311 d36312), (14, .int .i64 x36330), (22, .slice A112 n113 c114), (23, .int .i64 (x101.f2.length : Int)), (24, .int .i64 x30893)] → SH r (blk g102 83 [.slice A108 n109 c110, .int .i64 x101.f1, .slice A112 n113 c114] :: blk g116 33 [.int .u64 a1.f0, .int .u64 a1.f1, .int .i64 a1.f2, .int .i64 a1.f3] :: blk g36286 41 [.int .i64 x36283.f0, .int .i64 x36283.f1, .int .u64 x36283.f2, .int .u64 x36283.f3, .int .i64 x36283.f4, .int .i64 x36283.f5, str x36283.f6, str x36283.f7] :: own k41 41 A112 n113 c114 x101.f2 :: own k44 44 A30889 n30890 c30891 l30888 :: own k44 44 B36310 m36311 d36312 y36306.1 :: zone Z36308 wz36309 :: L) w → K36315 ac w := by
     intro x36330 hF ac w hA hS
     unfold segment_Segment_Scan_j2 at hF
     refine hK36315 _ _ ?_
     refine wp_seq_k fun K36331 hK36331 => ?_
     refine ws fun K36332 hK36332 => ?_
     refine x_m hA rfl fun ac hA => ?_
     refine x_v hA (r_neI rfl (hA.ev rfl) (hA.ev rfl)) rfl fun ac hA => ?_
     refine wn (hK36332 _ _ ?_)
     refine c_if hA rfl (fun hb36333 => ?_) fun hb36333 => ?_
     ·replace hF := ift hb36333 hF
      refine ws fun K36334 hK36334 => ?_
      refine x_m hA rfl fun ac hA => ?_
      refine x_m hA rfl fun ac hA => ?_
      refine x_m hA rfl fun ac hA => ?_
      refine x_m hA rfl fun ac hA => ?_
      refine wn (hK36334 _ _ ?_)
      refine wp_ret ?_
      replace hS := SH.nil_own (d := k44) (e := 44) hS
      replace hS := SH.pure_ h36314 hS
      replace hS := hS.pk 5
      replace hS := hS.pk 3
      replace hS := obj83_mk (x := x101) hS
      replace hS := SH.optS hS
      replace hS := hS.drop 2
      replace hS := hS.drop 2
      replace hS := hS.drop 2
      replace hS := hS.drop 2
      replace hS := hS.pk 2
      replace hS := hS.pk 1
      replace hS := hS.pk 2
      cases hF
      have ht := T33976_ _ rfl
      subst ht
      replace hF := hR33976
      replace hF : some ([], 0, x36330) = some y := hF
      cases hF
      refine hQ _ _ ?_
      refine lv3 Tryd.results18 hA rfl rfl rfl ?_
      exact ⟨Z36308, wz36309, none, 0, 0, rfl, (Sub.trans h30886 h36313), hS⟩
     replace hF := iff' hb36333 hF
     refine wp_skip ?_
     refine hK36331 _ _ ?_
     refine ws fun K36335 hK36335 => ?_
     refine x_m hA rfl fun ac hA => ?_
     refine x_len Tryd.underlying22 (hS.rd 5 rfl).2.1 hA (fun ac hA => ?_) rfl rfl rfl rfl rfl
     refine x_m hA rfl fun ac hA => ?_
     refine wn (hK36335 _ _ ?_)
     refine wp_block_k fun Kx36336 hKx36336 => ?_
     have hb3 : ∀ (l36675 : (List S44)), segment_Segment_Scan_b3 x30893 x36293 l36675 = some o33976 → ∀ (A36676 : Option Addr) (n36677 : Nat) (c36678 : Nat) (ac : Act) (w : World), FR 123 [] ac [(0, .pointer (some ⟨g102, 0, none⟩)), (3, .pointer (some ⟨g116, 0, none⟩)), (7, .slice A36676 n36677 c36678), (8, .int .i64 x36293), (22, .slice A112 n113 c114), (23, .int .i64 (x101.f2.length : Int)), (24, .int .i64 x30893)] → SH r (blk g102 83 [.slice A108 n109 c110, .int .i64 x101.f1, .slice A112 n113 c114] :: blk g116 33 [.int .u64 a1.f0, .int .u64 a1.f1, .int .i64 a1.f2, .int .i64 a1.f3] :: own k41 41 A112 n113 c114 x101.f2 :: own k44 44 A36676 n36677 c36678 l36675 :: zone Z36308 wz36309 :: L) w → Kx36336 ac w := by
      intro l36675 hF A36676 n36677 c36678 ac w hA hS
      unfold segment_Segment_Scan_b3 at hF
      refine hKx36336 _ _ ?_
      exact hb2 l36675 x36293 hF Z36308 wz36309 A36676 n36677 c36678 (Sub.trans h30886 h36313) h36314 ac w (hA.sub _ rfl) hS
     obtain ⟨t36909, hl36909, hF⟩ := bnd hF
     have hR36909 := hF
     have hx36909_2 : ∀ (l36906 : (List S44)), (.inl (l36906)) = t36909 → ∀ (A36907 : Option Addr) (n36908 : Nat) (c36909 : Nat) (ac : Act) (w : World), FR 123 [] ac [(0, .pointer (some ⟨g102, 0, none⟩)), (3, .pointer (some ⟨g116, 0, none⟩)), (7, .slice A36907 n36908 c36909), (8, .int .i64 x36293), (22, .slice A112 n113 c114), (23, .int .i64 (x101.f2.length : Int)), (24, .int .i64 x30893)] → SH r (blk g102 83 [.slice A108 n109 c110, .int .i64 x101.f1, .slice A112 n113 c114] :: blk g116 33 [.int .u64 a1.f0, .int .u64 a1.f1, .int .i64 a1.f2, .int .i64 a1.f3] :: own k41 41 A112 n113 c114 x101.f2 :: own k44 44 A36907 n36908 c36909 l36906 :: zone Z36308 wz36309 :: L) w → Kx36336 ac w := by
      intro l36906 ht A36907 n36908 c36909 ac w hA hS
      subst ht
      replace hF : segment_Segment_Scan_x2_2 x30893 x36293 l36906 = some o33976 := hF
      unfold segment_Segment_Scan_x2_2 at hF
      exact hb3 l36906 hF A36907 n36908 c36909 ac w (hA.sub _ rfl) hS
     refine wp_loop_fn hl36909 (fun s ac w => ∃ (A36791 : Option Addr) (n36792 : Nat) (c36793 : Nat), FR 123 [] ac [(0, .pointer (some ⟨g102, 0, none⟩)), (3, .pointer (some ⟨g116, 0, none⟩)), (7, .slice A36791 n36792 c36793), (8, .int .i64 x36293), (10, .pointer (some ⟨g36286, 0, none⟩)), (22, .slice A112 n113 c114), (23, .int .i64 (x101.f2.length : Int)), (24, .int .i64 x30893), (97, .slice B36310 m36311 d36312), (98, .int .i64 (y36306.1.length : Int)), (99, .int .i64 s.2)] ∧ SH r (blk g102 83 [.slice A108 n109 c110, .int .i64 x101.f1, .slice A112 n113 c114] :: blk g116 33 [.int .u64 a1.f0, .int .u64 a1.f1, .int .i64 a1.f2, .int .i64 a1.f3] :: blk g36286 41 [.int .i64 x36283.f0, .int .i64 x36283.f1, .int .u64 x36283.f2, .int .u64 x36283.f3, .int .i64 x36283.f4, .int .i64 x36283.f5, str x36283.f6, str x36283.f7] :: own k41 41 A112 n113 c114 x101.f2 :: own k44 44 A36791 n36792 c36793 s.1 :: own k44 44 B36310 m36311 d36312 y36306.1 :: zone Z36308 wz36309 :: L) w) ⟨A30889, n30890, c30891, hA.sub _ rfl, hS⟩ ?_
     intro N36909 s36909 o36909 hF N36909_ T36909_ ac w hLab
     obtain ⟨l36790, x36794⟩ := s36909
     replace hF : segment_Segment_Scan_l2 a1 x36283 y36306 l36790 x36794 = some o36909 := hF
     unfold segment_Segment_Scan_l2 at hF
     try dsimp only at hLab
     obtain ⟨A36791, n36792, c36793, hA, hS⟩ := hLab
     refine ws fun K36911 hK36911 => ?_
     refine x_v hA (r_ltI rfl (hA.ev rfl) (hA.ev rfl)) rfl fun ac hA => ?_
     refine wn (hK36911 _ _ ?_)
     refine wp_seq_k fun K36912 hK36912 => ?_
     refine c_if hA rfl (fun hb36913 => ?_) fun hb36913 => ?_
     ·replace hF := ift hb36913 hF
      refine wp_skip ?_
      refine hK36912 _ _ ?_
      refine wp_seq_k fun K36914 hK36914 => ?_
      refine wp_block_k fun Kx36965 hKx36965 => ?_
      have hb4 : ∀ (l36988 : (List S44)), segment_Segment_Scan_b4 x36794 l36988 = some o36909 → ∀ (A36989 : Option Addr) (n36990 : Nat) (c36991 : Nat) (ac : Act) (w : World), FR 123 [] ac [(0, .pointer (some ⟨g102, 0, none⟩)), (3, .pointer (some ⟨g116, 0, none⟩)), (7, .slice A36989 n36990 c36991), (8, .int .i64 x36293), (10, .pointer (some ⟨g36286, 0, none⟩)), (22, .slice A112 n113 c114), (23, .int .i64 (x101.f2.length : Int)), (24, .int .i64 x30893), (97, .slice B36310 m36311 d36312), (98, .int .i64 (y36306.1.length : Int)), (99, .int .i64 x36794)] → SH r (blk g102 83 [.slice A108 n109 c110, .int .i64 x101.f1, .slice A112 n113 c114] :: blk g116 33 [.int .u64 a1.f0, .int .u64 a1.f1, .int .i64 a1.f2, .int .i64 a1.f3] :: blk g36286 41 [.int .i64 x36283.f0, .int .i64 x36283.f1, .int .u64 x36283.f2, .int .u64 x36283.f3, .int .i64 x36283.f4, .int .i64 x36283.f5, str x36283.f6, str x36283.f7] :: own k41 41 A112 n113 c114 x101.f2 :: own k44 44 A36989 n36990 c36991 l36988 :: own k44 44 B36310 m36311 d36312 y36306.1 :: zone Z36308 wz36309 :: L) w → Kx36965 ac w := by
       intro l36988 hF A36989 n36990 c36991 ac w hA hS
       unfold segment_Segment_Scan_b4 at hF
       refine hKx36965 _ _ ?_
       refine hK36914 _ _ ?_
       refine wp_reg ?_
       obtain ⟨x36992, h36993, hF⟩ := ltt_ hF
       refine x_v (v := .int .i64 x36992) hA (rv_i h36993 (r_add rfl (hA.ev rfl) (hA.ev rfl))) rfl fun ac hA => ?_
       refine x_m hA rfl fun ac hA => ?_
       refine wpList_nil ?_
       cases hF
       exact ⟨_, N36909_ _ rfl, A36989, n36990, c36991, hA.sub _ rfl, hS⟩
      refine ws fun K36994 hK36994 => ?_
      refine x_m hA rfl fun ac hA => ?_
      obtain ⟨x36995, h36996, hF⟩ := bnd hF
      refine x_ia Tryd.underlying22 sz44 (hS.rd 5 rfl) h36996 hA (fun ac hA => ?_) rfl rfl rfl rfl rfl rfl
      obtain ⟨cs, hV, hc36997⟩ := el (hS.rd 5 rfl) h36996
      obtain rfl := hV
      refine x_lda (cs := [.int .u64 x36995.f0, .int .i64 x36995.f1, .int .i64 x36995.f2, str x36995.f3, .float .f64 x36995.f4]) Tryd.underlying44 sz44 (fun j u h => by rw [ea_add]; exact hc36997 _ _ h) hA (fun ac hA => ?_) rfl rfl rfl rfl rfl rfl
      refine x_alloc (cs := [.int .u64 0, .int .i64 0, .int .i64 0, str [], .float .f64 0]) zr44 hA hS (fun g36998 ac w hS hA => ?_) rfl rfl rfl rfl rfl
      refine x_m hA rfl fun ac hA => ?_
      refine x_stb 0 sz44 hA hS rfl (fun  ac w hS hA => ?_) rfl rfl rfl rfl rfl rfl rfl rfl
      refine wn (hK36994 _ _ ?_)
      refine wp_seq_k fun K36999 hK36999 => ?_
      refine ws fun K37000 hK37000 => ?_
      refine x_fab fa44_0 hA (fun ac hA => ?_) rfl rfl rfl rfl rfl
      refine x_ld Tryd.underlying31 (hS.cell 0 rfl 0 _ rfl) hA (fun ac hA => ?_) rfl rfl rfl rfl rfl rfl
      refine x_fab fa41_2 hA (fun ac hA => ?_) rfl rfl rfl rfl rfl
      refine x_ld Tryd.underlying31 (hS.cell 3 rfl 2 _ rfl) hA (fun ac hA => ?_) rfl rfl rfl rfl rfl rfl
      refine x_m hA rfl fun ac hA => ?_
      obtain ⟨x37001, h37002, hF⟩ := ltt_ hF
      refine x_v (v := .int .u64 x37001) hA (rv_i h37002 (r_convI Tryd.underlying3 Tryd.underlying31 rfl (hA.ev rfl))) rfl fun ac hA => ?_
      obtain ⟨x37003, h37004, hF⟩ := ltt_ hF
      refine x_v (v := .int .u64 x37003) hA (rv_i h37004 (r_add rfl (hA.ev rfl) (hA.ev rfl))) rfl fun ac hA => ?_
      refine x_v hA (r_neI rfl (hA.ev rfl) (hA.ev rfl)) rfl fun ac hA => ?_
      refine wn (hK37000 _ _ ?_)
      refine c_if hA rfl (fun hb37005 => ?_) fun hb37005 => ?_
      ·replace hF := ift hb37005 hF
       refine ws fun K37006 hK37006 => ?_
       refine x_m hA rfl fun ac hA => ?_
       refine x_m hA rfl fun ac hA => ?_
       refine x_m hA rfl fun ac hA => ?_
       refine wn (hK37006 _ _ ?_)
       refine wp_ret ?_
       replace hS := SH.nil_own (d := k44) (e := 44) hS
       replace hS := SH.pure_ h36314 hS
       replace hS := hS.pk 6
       replace hS := hS.pk 4
       replace hS := obj83_mk (x := x101) hS
       replace hS := SH.optS hS
       replace hS := hS.drop 2
       replace hS := hS.drop 2
       replace hS := hS.drop 2
       replace hS := hS.drop 2
       replace hS := hS.drop 2
       replace hS := hS.pk 2
       replace hS := hS.pk 1
       replace hS := hS.pk 2
       cases hF
       have ht := T36909_ _ rfl
       subst ht
       replace hF := hR36909
       replace hF : some (.inr (.inr ([], 0, 3))) = some o33976 := hF
       cases hF
       have ht := T33976_ _ rfl
       subst ht
       replace hF := hR33976
       replace hF : some ([], 0, 3) = some y := hF
       cases hF
       refine hQ _ _ ?_
       refine lv3 Tryd.results18 hA rfl rfl rfl ?_
       exact ⟨Z36308, wz36309, none, 0, 0, rfl, (Sub.trans h30886 h36313), hS⟩
      replace hF := iff' hb37005 hF
      refine wp_skip ?_
      refine hK36999 _ _ ?_
      refine ws fun K37007 hK37007 => ?_
      refine x_lda (ad := ⟨g116, 0, none⟩) (cs := [.int .u64 a1.f0, .int .u64 a1.f1, .int .i64 a1.f2, .int .i64 a1.f3]) Tryd.underlying33 sz33 (fun j u h => by rw [add_mk, Nat.zero_add]; exact hS.cell 2 rfl j u h) hA (fun ac hA => ?_) rfl rfl rfl rfl rfl rfl
      refine x_lda (ad := ⟨g36998, 0, none⟩) (cs := [.int .u64 x36995.f0, .int .i64 x36995.f1, .int .i64 x36995.f2, str x36995.f3, .float .f64 x36995.f4]) Tryd.underlying44 sz44 (fun j u h => by rw [add_mk, Nat.zero_add]; exact hS.cell 0 rfl j u h) hA (fun ac hA => ?_) rfl rfl rfl rfl rfl rfl
      obtain ⟨y37008, h37009, hF⟩ := bnd hF
      refine x_call en16 hA (F_segment_Filter_Wants (L := blk g36998 44 [.int .u64 x36995.f0, .int .i64 x36995.f1, .int .i64 x36995.f2, str x36995.f3, .float .f64 x36995.f4] :: blk g102 83 [.slice A108 n109 c110, .int .i64 x101.f1, .slice A112 n113 c114] :: blk g116 33 [.int .u64 a1.f0, .int .u64 a1.f1, .int .i64 a1.f2, .int .i64 a1.f3] :: blk g36286 41 [.int .i64 x36283.f0, .int .i64 x36283.f1, .int .u64 x36283.f2, .int .u64 x36283.f3, .int .i64 x36283.f4, .int .i64 x36283.f5, str x36283.f6, str x36283.f7] :: own k41 41 A112 n113 c114 x101.f2 :: own k44 44 A36791 n36792 c36793 l36790 :: own k44 44 B36310 m36311 d36312 y36306.1 :: zone Z36308 wz36309 :: L) a1 x36995 h37009 hS) (fun v ac w hR hA => ?_) rfl rfl rfl rfl rfl
      obtain ⟨rfl, hS⟩ := hR
      refine wn (hK37007 _ _ ?_)
      refine c_if hA rfl (fun hb37010 => ?_) fun hb37010 => ?_
      ·replace hF := ift hb37010 hF
       refine wp_reg ?_
       refine x_m hA rfl fun ac hA => ?_
       refine x_lda (ad := ⟨g36998, 0, none⟩) (cs := [.int .u64 x36995.f0, .int .i64 x36995.f1, .int .i64 x36995.f2, str x36995.f3, .float .f64 x36995.f4]) Tryd.underlying44 sz44 (fun j u h => by rw [add_mk, Nat.zero_add]; exact hS.cell 0 rfl j u h) hA (fun ac hA => ?_) rfl rfl rfl rfl rfl rfl
       refine x_bsl (d := k44) (e := 44) (ps := #[(0, .agg #[.int .u64 x36995.f0, .int .i64 x36995.f1, .int .i64 x36995.f2, str x36995.f3, .float .f64 x36995.f4])]) (cells := [.int .u64 x36995.f0, .int .i64 x36995.f1, .int .i64 x36995.f2, str x36995.f3, .float .f64 x36995.f4]) (xs := [x36995]) (fun w => by kernel_rfl) rfl ⟨[.int .u64 x36995.f0, .int .i64 x36995.f1, .int .i64 x36995.f2, str x36995.f3, .float .f64 x36995.f4], _, rfl, rfl, rfl⟩ hA hS (fun g37011 ac w hS hA => ?_) rfl rfl rfl rfl rfl rfl
       obtain ⟨h37012, hF⟩ := chk_some hF
       have hr := hS.rd 0 rfl
       refine x_app 6 inf44 Tryd.underlying22 hA hS hr.1 hr.2.1 h37012 rfl (fun A37013 n37014 c37015 ac w hS hA => ?_) rfl rfl rfl rfl rfl rfl rfl rfl rfl
       refine x_m hA rfl fun ac hA => ?_
       refine wpList_nil ?_
       replace hS := hS.drop 1
       replace hS := hS.drop 1
       replace hS := hS.pk 6
       replace hS := hS.pk 6
       replace hS := hS.pk 2
       replace hS := hS.pk 6
       replace hS := hS.pk 6
       replace hS := hS.pk 6
       replace hS := hS.pk 6
       exact hb4 (l36790 ++ [x36995]) hF A37013 n37014 c37015 ac w (hA.sub _ rfl) hS
      replace hF := iff' hb37010 hF
      refine wp_skip ?_
      replace hS := hS.drop 0
      exact hb4 l36790 hF A36791 n36792 c36793 ac w (hA.sub _ rfl) hS
     replace hF := iff' hb36913 hF
     refine wp_exit ?_
     replace hS := hS.drop 2
     replace hS := hS.drop 4
     cases hF
     exact hx36909_2 l36790 (T36909_ _ rfl) A36791 n36792 c36793 ac w (hA.sub _ rfl) hS
    refine wp_seq_k fun K37016 hK37016 => ?_
    have hj3 : ∀ (b37022 : Bool), segment_Segment_Scan_j3 a1 l30888 x30893 x36283 x36293 y36306 b37022 = some o33976 → ∀ (ac : Act) (w : World), FR 123 [] ac [(0, .pointer (some ⟨g102, 0, none⟩)), (3, .pointer (some ⟨g116, 0, none⟩)), (7, .slice A30889 n30890 c30891), (8, .int .i64 x36293), (10, .pointer (some ⟨g36286, 0, none⟩)), (12, .slice B36310 m36311 d36312), (14, .int .i64 y36306.2.2), (22, .slice A112 n113 c114), (23, .int .i64 (x101.f2.length : Int)), (24, .int .i64 x30893), (93, .bool b37022)] → SH r (blk g102 83 [.slice A108 n109 c110, .int .i64 x101.f1, .slice A112 n113 c114] :: blk g116 33 [.int .u64 a1.f0, .int .u64 a1.f1, .int .i64 a1.f2, .int .i64 a1.f3] :: blk g36286 41 [.int .i64 x36283.f0, .int .i64 x36283.f1, .int .u64 x36283.f2, .int .u64 x36283.f3, .int .i64 x36283.f4, .int .i64 x36283.f5, str x36283.f6, str x36283.f7] :: own k41 41 A112 n113 c114 x101.f2 :: own k44 44 A30889 n30890 c30891 l30888 :: own k44 44 B36310 m36311 d36312 y36306.1 :: zone Z36308 wz36309 :: L) w → K37016 ac w := by
     intro b37022 hF ac w hA hS
     unfold segment_Segment_Scan_j3 at hF
     refine hK37016 _ _ ?_
     refine c_if hA rfl (fun hb37023 => ?_) fun hb37023 => ?_
     ·replace hF := ift hb37023 hF
      refine wp_reg ?_
      refine x_m hA rfl fun ac hA => ?_
      refine wpList_nil ?_
      exact hj2 3 hF ac w (hA.sub _ rfl) hS
     replace hF := iff' hb37023 hF
     refine wp_skip ?_
     exact hj2 y36306.2.2 hF ac w (hA.sub _ rfl) hS
    refine wp_draw [0, 1, 3, 7, 7, 31, 63, 127, 255, 127, 639, 2047, 4095, 8191, 16383, 16383, 49151, 131071, 16383, 524287, 1048575, 2097151] [17] rfl hA hS (by kernel_rfl) (by kernel_rfl) (by kernel_rfl) (by kernel_rfl) fun w hS => ?_
    refine bcase (b := y36306.2.2 == 0) (fun hb37024 => ?_) fun hb37024 => ?_
    ·replace hF := ift hb37024 hF
     refine bcase (b := y36306.2.1 != x36304) (fun hb37025 => ?_) fun hb37025 => ?_
     ·replace hF := ift hb37025 hF
      refine ⟨[(0, .int .i64 y36306.2.2), (1, .bool (y36306.2.2 == 0)), (2, .bool (y36306.2.2 == 0)), (3, .int .i64 y36306.2.1), (4, .int .i64 x36304), (5, .bool (y36306.2.1 != x36304)), (6, .bool (y36306.2.1 != x36304)), (7, undef), (8, undef), (9, undef), (10, undef), (11, undef), (12, .bool true), (13, .bool true), (14, undef), (15, undef), (16, undef), (18, undef)], ?_⟩
      refine dEff [0, 1, 2, 3, 4, 5, 6, 7, 8, 9, 10, 11, 12, 13, 14, 15, 16, 18] [17] (by kernel_rfl) ⟨pu rfl rfl [(14, .int .i64 y36306.2.2)] (fun ac hA => y_move hA rfl rfl) rfl rfl, pu rfl rfl [(72, .int .i64 y36306.2.2)] (fun ac hA => r_eqI rfl (hA.ev rfl) (hA.ev rfl)) rfl rfl, pu rfl rfl [(73, .bool (y36306.2.2 == 0))] (fun ac hA => y_move hA rfl rfl) rfl rfl, puOn rfl rfl rfl rfl [(13, .int .i64 y36306.2.1), (74, .bool (y36306.2.2 == 0))] rfl hb37024 (fun ac hA => y_move hA rfl rfl) rfl, puOn rfl rfl rfl rfl [(11, .int .i64 x36304), (74, .bool (y36306.2.2 == 0))] rfl hb37024 (fun ac hA => y_move hA rfl rfl) rfl, puOn rfl rfl rfl rfl [(74, .bool (y36306.2.2 == 0)), (75, .int .i64 y36306.2.1), (76, .int .i64 x36304)] rfl hb37024 (fun ac hA => r_neI rfl (hA.ev rfl) (hA.ev rfl)) rfl, puOn rfl rfl rfl rfl [(74, .bool (y36306.2.2 == 0)), (77, .bool (y36306.2.1 != x36304))] rfl hb37024 (fun ac hA => y_move hA rfl rfl) rfl, puOff rfl rfl rfl rfl [(12, .slice B36310 m36311 d36312), (78, .bool (y36306.2.1 != x36304))] rfl hb37025 rfl, puOff rfl rfl rfl rfl [(78, .bool (y36306.2.1 != x36304)), (79, undef)] rfl hb37025 rfl, puOff rfl rfl rfl rfl [(10, .pointer (some ⟨g36286, 0, none⟩)), (78, .bool (y36306.2.1 != x36304))] rfl hb37025 rfl, puOff rfl rfl rfl rfl [(78, .bool (y36306.2.1 != x36304)), (81, undef)] rfl hb37025 rfl, puOff rfl rfl rfl rfl [(78, .bool (y36306.2.1 != x36304)), (80, undef), (82, undef)] rfl hb37025 rfl, puOn rfl rfl rfl rfl [(74, .bool (y36306.2.2 == 0)), (78, .bool (y36306.2.1 != x36304)), (83, undef)] rfl hb37024 (fun ac hA => y_pickt hb37025 hA rfl rfl rfl) rfl, puOn rfl rfl rfl rfl [(74, .bool (y36306.2.2 == 0)), (84, .bool true)] rfl hb37024 (fun ac hA => y_move hA rfl rfl) rfl, puOff rfl rfl rfl rfl [(12, .slice B36310 m36311 d36312), (85, .bool true)] rfl rfl rfl, puOff rfl rfl rfl rfl [(10, .pointer (some ⟨g36286, 0, none⟩)), (85, .bool true)] rfl rfl rfl, puOff rfl rfl rfl rfl [(85, .bool true), (87, undef)] rfl rfl rfl, puOff rfl rfl rfl rfl [(10, .pointer (some ⟨g36286, 0, none⟩)), (85, .bool true)] rfl rfl rfl, trivial⟩ (by kernel_rfl) (by kernel_rfl) ⟨?_, trivial⟩
      refine efOff rfl rfl rfl [(85, .bool true), (86, undef), (88, undef)] rfl [(19, undef), (20, .bool true), (21, .bool true)] rfl rfl ?_ rfl
      refine dEnd [18, 19, 20, 21] (by kernel_rfl) ⟨puOff rfl rfl rfl rfl [(10, .pointer (some ⟨g36286, 0, none⟩)), (85, .bool true)] rfl rfl rfl, puOff rfl rfl rfl rfl [(85, .bool true), (89, undef), (90, undef)] rfl rfl rfl, puOn rfl rfl rfl rfl [(74, .bool (y36306.2.2 == 0)), (85, .bool true), (91, undef)] rfl hb37024 (fun ac hA => y_pickt rfl hA rfl rfl rfl) rfl, pu rfl rfl [(74, .bool (y36306.2.2 == 0)), (92, .bool true)] (fun ac hA => y_pickt hb37024 hA rfl rfl rfl) rfl rfl, trivial⟩ ⟨by kernel_rfl, by kernel_rfl⟩ [(0, .pointer (some ⟨g102, 0, none⟩)), (3, .pointer (some ⟨g116, 0, none⟩)), (7, .slice A30889 n30890 c30891), (8, .int .i64 x36293), (10, .pointer (some ⟨g36286, 0, none⟩)), (12, .slice B36310 m36311 d36312), (14, .int .i64 y36306.2.2), (22, .slice A112 n113 c114), (23, .int .i64 (x101.f2.length : Int)), (24, .int .i64 x30893), (75, .int .i64 y36306.2.1), (76, .int .i64 x36304), (77, .bool (y36306.2.1 != x36304)), (78, .bool (y36306.2.1 != x36304)), (84, .bool true), (85, .bool true), (92, .bool true), (93, .bool true)] rfl (fun ac hA => ?_)
      replace hS := hS.pk 1
      replace hS := hS.pk 1
      replace hS := hS.pk 6
      replace hS := hS.pk 6
      replace hS := hS.pk 6
      replace hS := hS.pk 6
      replace hS := hS.pk 6
      exact hj3 true hF ac w (hA.sub _ rfl) hS
     replace hF := iff' hb37025 hF
     refine bcase (b := (y36306.1.length : Int) != x36283.f0) (fun hb37026 => ?_) fun hb37026 => ?_
     ·replace hF := ift hb37026 hF
      refine ⟨[(0, .int .i64 y36306.2.2), (1, .bool (y36306.2.2 == 0)), (2, .bool (y36306.2.2 == 0)), (3, .int .i64 y36306.2.1), (4, .int .i64 x36304), (5, .bool (y36306.2.1 != x36304)), (6, .bool (y36306.2.1 != x36304)), (7, .slice B36310 m36311 d36312), (8, .int .i64 (y36306.1.length : Int)), (9, .pointer (some ⟨g36286, 0, none⟩)), (10, .int .i64 x36283.f0), (11, .bool ((y36306.1.length : Int) != x36283.f0)), (12, .bool ((y36306.1.length : Int) != x36283.f0)), (13, .bool ((y36306.1.length : Int) != x36283.f0)), (14, undef), (15, undef), (16, undef), (18, undef)], ?_⟩
      refine dEff [0, 1, 2, 3, 4, 5, 6, 7, 8, 9, 10, 11, 12, 13, 14, 15, 16, 18] [17] (by kernel_rfl) ⟨pu rfl rfl [(14, .int .i64 y36306.2.2)] (fun ac hA => y_move hA rfl rfl) rfl rfl, pu rfl rfl [(72, .int .i64 y36306.2.2)] (fun ac hA => r_eqI rfl (hA.ev rfl) (hA.ev rfl)) rfl rfl, pu rfl rfl [(73, .bool (y36306.2.2 == 0))] (fun ac hA => y_move hA rfl rfl) rfl rfl, puOn rfl rfl rfl rfl [(13, .int .i64 y36306.2.1), (74, .bool (y36306.2.2 == 0))] rfl hb37024 (fun ac hA => y_move hA rfl rfl) rfl, puOn rfl rfl rfl rfl [(11, .int .i64 x36304), (74, .bool (y36306.2.2 == 0))] rfl hb37024 (fun ac hA => y_move hA rfl rfl) rfl, puOn rfl rfl rfl rfl [(74, .bool (y36306.2.2 == 0)), (75, .int .i64 y36306.2.1), (76, .int .i64 x36304)] rfl hb37024 (fun ac hA => r_neI rfl (hA.ev rfl) (hA.ev rfl)) rfl, puOn rfl rfl rfl rfl [(74, .bool (y36306.2.2 == 0)), (77, .bool (y36306.2.1 != x36304))] rfl hb37024 (fun ac hA => y_move hA rfl rfl) rfl, puOn rfl rfl rfl rfl [(12, .slice B36310 m36311 d36312), (78, .bool (y36306.2.1 != x36304))] rfl hb37025 (fun ac hA => y_move hA rfl rfl) rfl, puOn rfl rfl rfl rfl [(78, .bool (y36306.2.1 != x36304)), (79, .slice B36310 m36311 d36312)] rfl hb37025 (fun ac hA => y_len Tryd.underlying22 (hS.rd 0 rfl).2.1 hA rfl rfl) rfl, puOn rfl rfl rfl rfl [(10, .pointer (some ⟨g36286, 0, none⟩)), (78, .bool (y36306.2.1 != x36304))] rfl hb37025 (fun ac hA => y_fab fa41_0 hA rfl rfl) rfl, puOn rfl rfl rfl rfl [(78, .bool (y36306.2.1 != x36304)), (81, .pointer (some ⟨g36286, 0, none⟩))] rfl hb37025 (fun ac hA => y_ld Tryd.underlying3 (hS.cell 4 rfl 0 _ rfl) hA rfl rfl rfl) rfl, puOn rfl rfl rfl rfl [(78, .bool (y36306.2.1 != x36304)), (80, .int .i64 (y36306.1.length : Int)), (82, .int .i64 x36283.f0)] rfl hb37025 (fun ac hA => r_neI rfl (hA.ev rfl) (hA.ev rfl)) rfl, puOn rfl rfl rfl rfl [(74, .bool (y36306.2.2 == 0)), (78, .bool (y36306.2.1 != x36304)), (83, .bool ((y36306.1.length : Int) != x36283.f0))] rfl hb37024 (fun ac hA => y_pickf hb37025 hA rfl rfl rfl) rfl, puOn rfl rfl rfl rfl [(74, .bool (y36306.2.2 == 0)), (84, .bool ((y36306.1.length : Int) != x36283.f0))] rfl hb37024 (fun ac hA => y_move hA rfl rfl) rfl, puOff rfl rfl rfl rfl [(12, .slice B36310 m36311 d36312), (85, .bool ((y36306.1.length : Int) != x36283.f0))] rfl hb37026 rfl, puOff rfl rfl rfl rfl [(10, .pointer (some ⟨g36286, 0, none⟩)), (85, .bool ((y36306.1.length : Int) != x36283.f0))] rfl hb37026 rfl, puOff rfl rfl rfl rfl [(85, .bool ((y36306.1.length : Int) != x36283.f0)), (87, undef)] rfl hb37026 rfl, puOff rfl rfl rfl rfl [(10, .pointer (some ⟨g36286, 0, none⟩)), (85, .bool ((y36306.1.length : Int) != x36283.f0))] rfl hb37026 rfl, trivial⟩ (by kernel_rfl) (by kernel_rfl) ⟨?_, trivial⟩
      refine efOff rfl rfl rfl [(85, .bool ((y36306.1.length : Int) != x36283.f0)), (86, undef), (88, undef)] rfl [(19, undef), (20, .bool true), (21, .bool true)] hb37026 rfl ?_ rfl
      refine dEnd [18, 19, 20, 21] (by kernel_rfl) ⟨puOff rfl rfl rfl rfl [(10, .pointer (some ⟨g36286, 0, none⟩)), (85, .bool ((y36306.1.length : Int) != x36283.f0))] rfl hb37026 rfl, puOff rfl rfl rfl rfl [(85, .bool ((y36306.1.length : Int) != x36283.f0)), (89, undef), (90, undef)] rfl hb37026 rfl, puOn rfl rfl rfl rfl [(74, .bool (y36306.2.2 == 0)), (85, .bool ((y36306.1.length : Int) != x36283.f0)), (91, undef)] rfl hb37024 (fun ac hA => y_pickt hb37026 hA rfl rfl rfl) rfl, pu rfl rfl [(74, .bool (y36306.2.2 == 0)), (92, .bool true)] (fun ac hA => y_pickt hb37024 hA rfl rfl rfl) rfl rfl, trivial⟩ ⟨by kernel_rfl, by kernel_rfl⟩ [(0, .pointer (some ⟨g102, 0, none⟩)), (3, .pointer (some ⟨g116, 0, none⟩)), (7, .slice A30889 n30890 c30891), (8, .int .i64 x36293), (10, .pointer (some ⟨g36286, 0, none⟩)), (12, .slice B36310 m36311 d36312), (14, .int .i64 y36306.2.2), (22, .slice A112 n113 c114), (23, .int .i64 (x101.f2.length : Int)), (24, .int .i64 x30893), (75, .int .i64 y36306.2.1), (76, .int .i64 x36304), (77, .bool (y36306.2.1 != x36304)), (78, .bool (y36306.2.1 != x36304)), (79, .slice B36310 m36311 d36312), (80, .int .i64 (y36306.1.length : Int)), (81, .pointer (some ⟨g36286, 0, none⟩)), (82, .int .i64 x36283.f0), (83, .bool ((y36306.1.length : Int) != x36283.f0)), (84, .bool ((y36306.1.length : Int) != x36283.f0)), (85, .bool ((y36306.1.length : Int) != x36283.f0)), (92, .bool true), (93, .bool true)] rfl (fun ac hA => ?_)
      replace hS := hS.pk 1
      replace hS := hS.pk 1
      replace hS := hS.pk 6
      replace hS := hS.pk 6
      replace hS := hS.pk 6
      replace hS := hS.pk 6
      replace hS := hS.pk 6
      exact hj3 true hF ac w (hA.sub _ rfl) hS
     replace hF := iff' hb37026 hF
     refine ⟨[(0, .int .i64 y36306.2.2), (1, .bool (y36306.2.2 == 0)), (2, .bool (y36306.2.2 == 0)), (3, .int .i64 y36306.2.1), (4, .int .i64 x36304), (5, .bool (y36306.2.1 != x36304)), (6, .bool (y36306.2.1 != x36304)), (7, .slice B36310 m36311 d36312), (8, .int .i64 (y36306.1.length : Int)), (9, .pointer (some ⟨g36286, 0, none⟩)), (10, .int .i64 x36283.f0), (11, .bool ((y36306.1.length : Int) != x36283.f0)), (12, .bool ((y36306.1.length : Int) != x36283.f0)), (13, .bool ((y36306.1.length : Int) != x36283.f0)), (14, .slice B36310 m36311 d36312), (15, .pointer (some ⟨g36286, 1, none⟩)), (16, .int .i64 x36283.f1), (18, .agg #[.int .i64 x36283.f0, .int .i64 x36283.f1, .int .u64 x36283.f2, .int .u64 x36283.f3, .int .i64 x36283.f4, .int .i64 x36283.f5, str x36283.f6, str x36283.f7])], ?_⟩
     refine dEff [0, 1, 2, 3, 4, 5, 6, 7, 8, 9, 10, 11, 12, 13, 14, 15, 16, 18] [17] (by kernel_rfl) ⟨pu rfl rfl [(14, .int .i64 y36306.2.2)] (fun ac hA => y_move hA rfl rfl) rfl rfl, pu rfl rfl [(72, .int .i64 y36306.2.2)] (fun ac hA => r_eqI rfl (hA.ev rfl) (hA.ev rfl)) rfl rfl, pu rfl rfl [(73, .bool (y36306.2.2 == 0))] (fun ac hA => y_move hA rfl rfl) rfl rfl, puOn rfl rfl rfl rfl [(13, .int .i64 y36306.2.1), (74, .bool (y36306.2.2 == 0))] rfl hb37024 (fun ac hA => y_move hA rfl rfl) rfl, puOn rfl rfl rfl rfl [(11, .int .i64 x36304), (74, .bool (y36306.2.2 == 0))] rfl hb37024 (fun ac hA => y_move hA rfl rfl) rfl, puOn rfl rfl rfl rfl [(74, .bool (y36306.2.2 == 0)), (75, .int .i64 y36306.2.1), (76, .int .i64 x36304)] rfl hb37024 (fun ac hA => r_neI rfl (hA.ev rfl) (hA.ev rfl)) rfl, puOn rfl rfl rfl rfl [(74, .bool (y36306.2.2 == 0)), (77, .bool (y36306.2.1 != x36304))] rfl hb37024 (fun ac hA => y_move hA rfl rfl) rfl, puOn rfl rfl rfl rfl [(12, .slice B36310 m36311 d36312), (78, .bool (y36306.2.1 != x36304))] rfl hb37025 (fun ac hA => y_move hA rfl rfl) rfl, puOn rfl rfl rfl rfl [(78, .bool (y36306.2.1 != x36304)), (79, .slice B36310 m36311 d36312)] rfl hb37025 (fun ac hA => y_len Tryd.underlying22 (hS.rd 0 rfl).2.1 hA rfl rfl) rfl, puOn rfl rfl rfl rfl [(10, .pointer (some ⟨g36286, 0, none⟩)), (78, .bool (y36306.2.1 != x36304))] rfl hb37025 (fun ac hA => y_fab fa41_0 hA rfl rfl) rfl, puOn rfl rfl rfl rfl [(78, .bool (y36306.2.1 != x36304)), (81, .pointer (some ⟨g36286, 0, none⟩))] rfl hb37025 (fun ac hA => y_ld Tryd.underlying3 (hS.cell 4 rfl 0 _ rfl) hA rfl rfl rfl) rfl, puOn rfl rfl rfl rfl [(78, .bool (y36306.2.1 != x36304)), (80, .int .i64 (y36306.1.length : Int)), (82, .int .i64 x36283.f0)] rfl hb37025 (fun ac hA => r_neI rfl (hA.ev rfl) (hA.ev rfl)) rfl, puOn rfl rfl rfl rfl [(74, .bool (y36306.2.2 == 0)), (78, .bool (y36306.2.1 != x36304)), (83, .bool ((y36306.1.length : Int) != x36283.f0))] rfl hb37024 (fun ac hA => y_pickf hb37025 hA rfl rfl rfl) rfl, puOn rfl rfl rfl rfl [(74, .bool (y36306.2.2 == 0)), (84, .bool ((y36306.1.length : Int) != x36283.f0))] rfl hb37024 (fun ac hA => y_move hA rfl rfl) rfl, puOn rfl rfl rfl rfl [(12, .slice B36310 m36311 d36312), (85, .bool ((y36306.1.length : Int) != x36283.f0))] rfl hb37026 (fun ac hA => y_move hA rfl rfl) rfl, puOn rfl rfl rfl rfl [(10, .pointer (some ⟨g36286, 0, none⟩)), (85, .bool ((y36306.1.length : Int) != x36283.f0))] rfl hb37026 (fun ac hA => y_fab fa41_1 hA rfl rfl) rfl, puOn rfl rfl rfl rfl [(85, .bool ((y36306.1.length : Int) != x36283.f0)), (87, .pointer (some ⟨g36286, 1, none⟩))] rfl hb37026 (fun ac hA => y_ld Tryd.underlying3 (hS.cell 4 rfl 1 _ rfl) hA rfl rfl rfl) rfl, puOn rfl rfl rfl rfl [(10, .pointer (some ⟨g36286, 0, none⟩)), (85, .bool ((y36306.1.length : Int) != x36283.f0))] rfl hb37026 (fun ac hA => y_lda (ad := ⟨g36286, 0, none⟩) (cs := [.int .i64 x36283.f0, .int .i64 x36283.f1, .int .u64 x36283.f2, .int .u64 x36283.f3, .int .i64 x36283.f4, .int .i64 x36283.f5, str x36283.f6, str x36283.f7]) Tryd.underlying41 sz41 (fun j u h => by rw [add_mk, Nat.zero_add]; exact hS.cell 4 rfl j u h) hA rfl rfl rfl) rfl, trivial⟩ (by kernel_rfl) (by kernel_rfl) ⟨efOn rfl rfl rfl [(85, .bool ((y36306.1.length : Int) != x36283.f0)), (86, .slice B36310 m36311 d36312), (88, .int .i64 x36283.f1)] rfl hb37026 (fun ac hA K hK => ?_) rfl, trivial⟩
     obtain ⟨y37027, h37028, hF⟩ := bnd hF
     refine z_call en25 hA (F_segment_chunk (L := own k44 44 B36310 m36311 d36312 y36306.1 :: zone Z36308 wz36309 :: blk g102 83 [.slice A108 n109 c110, .int .i64 x101.f1, .slice A112 n113 c114] :: blk g116 33 [.int .u64 a1.f0, .int .u64 a1.f1, .int .i64 a1.f2, .int .i64 a1.f3] :: blk g36286 41 [.int .i64 x36283.f0, .int .i64 x36283.f1, .int .u64 x36283.f2, .int .u64 x36283.f3, .int .i64 x36283.f4, .int .i64 x36283.f5, str x36283.f6, str x36283.f7] :: own k41 41 A112 n113 c114 x101.f2 :: own k44 44 A30889 n30890 c30891 l30888 :: L) y36306.1 x36283.f1 B36310 m36311 d36312 h37028 (RdL.own 0 rfl (hS.dropN 0)) hS) (fun v w hR => ?_) rfl rfl
     obtain ⟨rfl, hS⟩ := hR
     refine hK _ [(19, .bool (!eq41 y37027 x36283)), (20, .bool (!eq41 y37027 x36283)), (21, .bool (!eq41 y37027 x36283))] _ rfl ?_
     refine dEnd [18, 19, 20, 21] (by kernel_rfl) ⟨puOn rfl rfl rfl rfl [(10, .pointer (some ⟨g36286, 0, none⟩)), (85, .bool ((y36306.1.length : Int) != x36283.f0))] rfl hb37026 (fun ac hA => y_lda (ad := ⟨g36286, 0, none⟩) (cs := [.int .i64 x36283.f0, .int .i64 x36283.f1, .int .u64 x36283.f2, .int .u64 x36283.f3, .int .i64 x36283.f4, .int .i64 x36283.f5, str x36283.f6, str x36283.f7]) Tryd.underlying41 sz41 (fun j u h => by rw [add_mk, Nat.zero_add]; exact hS.cell 4 rfl j u h) hA rfl rfl rfl) rfl, puOn rfl rfl rfl rfl [(85, .bool ((y36306.1.length : Int) != x36283.f0)), (89, .agg #[.int .i64 y37027.f0, .int .i64 y37027.f1, .int .u64 y37027.f2, .int .u64 y37027.f3, .int .i64 y37027.f4, .int .i64 y37027.f5, str y37027.f6, str y37027.f7]), (90, .agg #[.int .i64 x36283.f0, .int .i64 x36283.f1, .int .u64 x36283.f2, .int .u64 x36283.f3, .int .i64 x36283.f4, .int .i64 x36283.f5, str x36283.f6, str x36283.f7])] rfl hb37026 (fun ac hA => r_neA gt41 (eqs41 y37027 x36283) rfl (hA.ev rfl) (hA.ev rfl)) rfl, puOn rfl rfl rfl rfl [(74, .bool (y36306.2.2 == 0)), (85, .bool ((y36306.1.length : Int) != x36283.f0)), (91, .bool (!eq41 y37027 x36283))] rfl hb37024 (fun ac hA => y_pickf hb37026 hA rfl rfl rfl) rfl, pu rfl rfl [(74, .bool (y36306.2.2 == 0)), (92, .bool (!eq41 y37027 x36283))] (fun ac hA => y_pickt hb37024 hA rfl rfl rfl) rfl rfl, trivial⟩ ⟨by kernel_rfl, by kernel_rfl⟩ [(0, .pointer (some ⟨g102, 0, none⟩)), (3, .pointer (some ⟨g116, 0, none⟩)), (7, .slice A30889 n30890 c30891), (8, .int .i64 x36293), (10, .pointer (some ⟨g36286, 0, none⟩)), (12, .slice B36310 m36311 d36312), (14, .int .i64 y36306.2.2), (22, .slice A112 n113 c114), (23, .int .i64 (x101.f2.length : Int)), (24, .int .i64 x30893), (75, .int .i64 y36306.2.1), (76, .int .i64 x36304), (77, .bool (y36306.2.1 != x36304)), (78, .bool (y36306.2.1 != x36304)), (79, .slice B36310 m36311 d36312), (80, .int .i64 (y36306.1.length : Int)), (81, .pointer (some ⟨g36286, 0, none⟩)), (82, .int .i64 x36283.f0), (83, .bool ((y36306.1.length : Int) != x36283.f0)), (84, .bool ((y36306.1.length : Int) != x36283.f0)), (85, .bool ((y36306.1.length : Int) != x36283.f0)), (86, .slice B36310 m36311 d36312), (87, .pointer (some ⟨g36286, 1, none⟩)), (88, .int .i64 x36283.f1), (89, .agg #[.int .i64 y37027.f0, .int .i64 y37027.f1, .int .u64 y37027.f2, .int .u64 y37027.f3, .int .i64 y37027.f4, .int .i64 y37027.f5, str y37027.f6, str y37027.f7]), (90, .agg #[.int .i64 x36283.f0, .int .i64 x36283.f1, .int .u64 x36283.f2, .int .u64 x36283.f3, .int .i64 x36283.f4, .int .i64 x36283.f5, str x36283.f6, str x36283.f7]), (91, .bool (!eq41 y37027 x36283)), (92, .bool (!eq41 y37027 x36283)), (93, .bool (!eq41 y37027 x36283))] rfl (fun ac hA => ?_)
     replace hS := hS.pk 1
     replace hS := hS.pk 1
     replace hS := hS.pk 6
     replace hS := hS.pk 6
     replace hS := hS.pk 6
     replace hS := hS.pk 6
     replace hS := hS.pk 6
     exact hj3 (!eq41 y37027 x36283) hF ac w (hA.sub _ rfl) hS
    replace hF := iff' hb37024 hF
    refine ⟨[(0, .int .i64 y36306.2.2), (1, .bool (y36306.2.2 == 0)), (2, .bool (y36306.2.2 == 0)), (3, undef), (4, undef), (5, undef), (6, undef), (7, undef), (8, undef), (9, undef), (10, undef), (11, undef), (12, undef), (13, undef), (14, undef), (15, undef), (16, undef), (18, undef)], ?_⟩
    refine dEff [0, 1, 2, 3, 4, 5, 6, 7, 8, 9, 10, 11, 12, 13, 14, 15, 16, 18] [17] (by kernel_rfl) ⟨pu rfl rfl [(14, .int .i64 y36306.2.2)] (fun ac hA => y_move hA rfl rfl) rfl rfl, pu rfl rfl [(72, .int .i64 y36306.2.2)] (fun ac hA => r_eqI rfl (hA.ev rfl) (hA.ev rfl)) rfl rfl, pu rfl rfl [(73, .bool (y36306.2.2 == 0))] (fun ac hA => y_move hA rfl rfl) rfl rfl, puOff rfl rfl rfl rfl [(13, .int .i64 y36306.2.1), (74, .bool (y36306.2.2 == 0))] rfl hb37024 rfl, puOff rfl rfl rfl rfl [(11, .int .i64 x36304), (74, .bool (y36306.2.2 == 0))] rfl hb37024 rfl, puOff rfl rfl rfl rfl [(74, .bool (y36306.2.2 == 0)), (75, undef), (76, undef)] rfl hb37024 rfl, puOff rfl rfl rfl rfl [(74, .bool (y36306.2.2 == 0)), (77, undef)] rfl hb37024 rfl, puOffU rfl rfl rfl rfl [(12, .slice B36310 m36311 d36312), (78, undef)] rfl rfl, puOffU rfl rfl rfl rfl [(78, undef), (79, undef)] rfl rfl, puOffU rfl rfl rfl rfl [(10, .pointer (some ⟨g36286, 0, none⟩)), (78, undef)] rfl rfl, puOffU rfl rfl rfl rfl [(78, undef), (81, undef)] rfl rfl, puOffU rfl rfl rfl rfl [(78, undef), (80, undef), (82, undef)] rfl rfl, puOff rfl rfl rfl rfl [(74, .bool (y36306.2.2 == 0)), (78, undef), (83, undef)] rfl hb37024 rfl, puOff rfl rfl rfl rfl [(74, .bool (y36306.2.2 == 0)), (84, undef)] rfl hb37024 rfl, puOffU rfl rfl rfl rfl [(12, .slice B36310 m36311 d36312), (85, undef)] rfl rfl, puOffU rfl rfl rfl rfl [(10, .pointer (some ⟨g36286, 0, none⟩)), (85, undef)] rfl rfl, puOffU rfl rfl rfl rfl [(85, undef), (87, undef)] rfl rfl, puOffU rfl rfl rfl rfl [(10, .pointer (some ⟨g36286, 0, none⟩)), (85, undef)] rfl rfl, trivial⟩ (by kernel_rfl) (by kernel_rfl) ⟨?_, trivial⟩
    refine efOffU rfl rfl rfl [(85, undef), (86, undef), (88, undef)] rfl [(19, undef), (20, undef), (21, .bool false)] rfl ?_ rfl
    refine dEnd [18, 19, 20, 21] (by kernel_rfl) ⟨puOffU rfl rfl rfl rfl [(10, .pointer (some ⟨g36286, 0, none⟩)), (85, undef)] rfl rfl, puOffU rfl rfl rfl rfl [(85, undef), (89, undef), (90, undef)] rfl rfl, puOff rfl rfl rfl rfl [(74, .bool (y36306.2.2 == 0)), (85, undef), (91, undef)] rfl hb37024 rfl, pu rfl rfl [(74, .bool (y36306.2.2 == 0)), (92, undef)] (fun ac hA => y_pickf hb37024 hA rfl rfl rfl) rfl rfl, trivial⟩ ⟨by kernel_rfl, by kernel_rfl⟩ [(0, .pointer (some ⟨g102, 0, none⟩)), (3, .pointer (some ⟨g116, 0, none⟩)), (7, .slice A30889 n30890 c30891), (8, .int .i64 x36293), (10, .pointer (some ⟨g36286, 0, none⟩)), (12, .slice B36310 m36311 d36312), (14, .int .i64 y36306.2.2), (22, .slice A112 n113 c114), (23, .int .i64 (x101.f2.length : Int)), (24, .int .i64 x30893), (93, .bool false)] rfl (fun ac hA => ?_)
    replace hS := hS.pk 1
    replace hS := hS.pk 1
    replace hS := hS.pk 6
    replace hS := hS.pk 6
    replace hS := hS.pk 6
    replace hS := hS.pk 6
    replace hS := hS.pk 6
    exact hj3 false hF ac w (hA.sub _ rfl) hS
   refine ws fun K37029 hK37029 => ?_
   refine x_m hA rfl fun ac hA => ?_
   obtain ⟨x37030, h37031, hF⟩ := ltt_ hF
   refine x_v (v := .int .i64 x37030) hA (rv_i h37031 (r_add rfl (hA.ev rfl) (hA.ev rfl))) rfl fun ac hA => ?_
   refine x_m hA rfl fun ac hA => ?_
   refine x_v hA (r_nilCheck rfl (hA.ev rfl)) rfl fun ac hA => ?_
   refine x_fab fa83_2 hA (fun ac hA => ?_) rfl rfl rfl rfl rfl
   refine x_ld Tryd.underlying38 (hS.cell 1 rfl 2 _ rfl) hA (fun ac hA => ?_) rfl rfl rfl rfl rfl rfl
   refine x_len Tryd.underlying38 (hS.rd 3 rfl).2.1 hA (fun ac hA => ?_) rfl rfl rfl rfl rfl
   refine x_v hA (r_ltI rfl (hA.ev rfl) (hA.ev rfl)) rfl fun ac hA => ?_
   refine wn (hK37029 _ _ ?_)
   refine c_if hA rfl (fun hb37032 => ?_) fun hb37032 => ?_
   ·replace hF := ift hb37032 hF
    refine wp_reg ?_
    refine x_m hA rfl fun ac hA => ?_
    refine x_v hA (r_nilCheck rfl (hA.ev rfl)) rfl fun ac hA => ?_
    refine x_fab fa83_2 hA (fun ac hA => ?_) rfl rfl rfl rfl rfl
    refine x_ld Tryd.underlying38 (hS.cell 1 rfl 2 _ rfl) hA (fun ac hA => ?_) rfl rfl rfl rfl rfl rfl
    refine x_m hA rfl fun ac hA => ?_
    refine x_v (v := .int .i64 x37030) hA (rv_i h37031 (r_add rfl (hA.ev rfl) (hA.ev rfl))) rfl fun ac hA => ?_
    obtain ⟨x37033, h37034, hF⟩ := bnd hF
    refine x_ia Tryd.underlying38 sz41 (hS.rd 3 rfl) h37034 hA (fun ac hA => ?_) rfl rfl rfl rfl rfl rfl
    refine x_fae (m := x37030.toNat * 8) fa41_1 hA (fun ac hA => ?_) rfl rfl rfl rfl rfl
    obtain ⟨cs, hV, hc37035⟩ := el (hS.rd 3 rfl) h37034
    obtain rfl := hV
    refine x_ld Tryd.underlying3 (hc37035 1 _ rfl) hA (fun ac hA => ?_) rfl rfl rfl rfl rfl rfl
    refine x_m hA rfl fun ac hA => ?_
    refine wpList_nil ?_
    replace hS := hS.pk 5
    replace hS := hS.pk 5
    replace hS := hS.pk 5
    replace hS := hS.pk 3
    replace hS := hS.pk 5
    replace hS := hS.pk 5
    exact hj1 x37033.f1 hF ac w (hA.sub _ rfl) hS
   replace hF := iff' hb37032 hF
   refine wp_skip ?_
   replace hS := hS.pk 5
   replace hS := hS.pk 5
   replace hS := hS.pk 5
   replace hS := hS.pk 3
   replace hS := hS.pk 5
   replace hS := hS.pk 5
   exact hj1 (x101.f0.length : Int) hF ac w (hA.sub _ rfl) hS
  replace hF := iff' hb33980 hF
  refine wp_exit ?_
  replace hS := hS.drop 1
  cases hF
  exact hx33976_0 l30888 x30892 (T33976_ _ rfl) Z30884 wz30885 A30889 n30890 c30891 h30886 h30887 ac w (hA.sub _ rfl) hS
end Go.Proofs.YteodeedejjcmgaaDoor.M
namespace Go.Proofs.YteodeedejjcmgaaDoor.M
open Go Go.RowKit Go.Proofs.YteodeedejjcmgaaDoor.E
set_option linter.unusedVariables false
set_option linter.unusedSimpArgs false
noncomputable def law07_awake_j1 (y347 : ((Option S83) × Int)) (b358 : Bool) : Option (Bool) :=
  if b358 = true then (some false) else ((segment_Segment_Chunks y347.1).bind fun y362 => (if ((y362.length : Int) == 3) = true then ((at_ y362 0).bind fun x369 => (if (x369.f0 == 64) = true then ((at_ y362 2).bind fun x373 => (if (x373.f0 == 2) = true then (some true) else (some false))) else (some false))) else (some false)))
noncomputable def law07_awake_b1 (l323 : (List S44)) : Option (Bool) :=
  (segment_Write l323 1).bind fun y332 => ((segment_Open y332.1).bind fun y347 => (if (y332.2 != 0) = true then (law07_awake_j1 y347 true) else (law07_awake_j1 y347 (y347.2 != 0))))
noncomputable def law07_awake_x1_0 (l429 : (List S44)) : Option (Bool) :=
  law07_awake_b1 l429
noncomputable def law07_awake_l1 (l405 : (List S44)) (x409 : Int) : Option (((List S44) × Int) ⊕ (((List S44)))) :=
  if (decide (x409 < 130)) = true then (ltt (IntKind.u64.wrap x409) fun x439 => (chk (l405.length + [(⟨x439, 0, x409, [], 0⟩ : S44)].length ≤ 140737488355328 / 48) (ltt (IntKind.i64.wrap (x409 + 1)) fun x446 => (some (.inl (l405 ++ [(⟨x439, 0, x409, [], 0⟩ : S44)], x446)))))) else (some (.inr (l405)))
noncomputable def law07_awake : Option (Bool) :=
  (loop (fun s => law07_awake_l1 s.1 s.2) ([], 0)).bind fun t => law07_awake_x1_0 t
end Go.Proofs.YteodeedejjcmgaaDoor.M
namespace Go.Proofs.YteodeedejjcmgaaDoor.M
open Go Go.RowKit Go.Proofs.YteodeedejjcmgaaDoor.E
set_option linter.unusedVariables false
set_option maxRecDepth 100000
set_option maxHeartbeats 4000000
set_option linter.unusedSimpArgs false
theorem F_law07_awake {r : World} {L : List HP} {w : World} {Z : Nat → Prop} {wz : World} {y : (Bool)} (hF : law07_awake = some y) (hG0 : Imm Z wz (kI .u32) (some ⟨0, 0, none⟩) 16 16 gl_page_table) (hS : SH r (zone Z wz :: L) w) :
  Ret Tryd.prog 10 #[] w fun v w' => ∃ (Z' : Nat → Prop) (wz' : World), v = .bool y ∧ Sub Z wz Z' wz' ∧ SH r (zone Z' wz' :: L) w' := by
 refine enter Tryd.func10 rfl Tryd.ntmps10 [] rfl (by simp) ?_
 intro ac hA Qf hQ hQn
 unfold law07_awake at hF
 refine ws fun K101 hK101 => ?_
 refine x_m hA rfl fun ac hA => ?_
 refine wn (hK101 _ _ ?_)
 refine ws fun K102 hK102 => ?_
 refine x_m hA rfl fun ac hA => ?_
 refine wn (hK102 _ _ ?_)
 refine wp_seq_k fun K103 hK103 => ?_
 refine ws fun K251 hK251 => ?_
 refine x_m hA rfl fun ac hA => ?_
 refine wn (hK251 _ _ ?_)
 refine wp_block_k fun Kx252 hKx252 => ?_
 have hb1 : ∀ (l323 : (List S44)), law07_awake_b1 l323 = some y → ∀ (A324 : Option Addr) (n325 : Nat) (c326 : Nat) (ac : Act) (w : World), FR 58 [] ac [(1, .slice A324 n325 c326)] → SH r (own k44 44 A324 n325 c326 l323 :: zone Z wz :: L) w → Kx252 ac w := by
  intro l323 hF A324 n325 c326 ac w hA hS
  unfold law07_awake_b1 at hF
  refine hKx252 _ _ ?_
  refine hK103 _ _ ?_
  refine ws fun K327 hK327 => ?_
  refine x_m hA rfl fun ac hA => ?_
  replace hS := hS.pk 1
  replace hS := hS.pk 1
  obtain ⟨Z328, wz329, hS, h330, sb331⟩ := SH.freeze (n := n325) (c := c326) (A := A324) hS
  obtain ⟨y332, h333, hF⟩ := bnd hF
  refine x_call en11 hA (F_segment_Write (L := L) l323 1 A324 n325 c326 h333 h330 (Imm.sub hG0 sb331) hS) (fun v ac w hR hA => ?_) rfl rfl rfl rfl rfl
  obtain ⟨Z334, wz335, B336, m337, d338, rfl, h339, hS⟩ := hR
  have h340 := Imm.sub h330 h339
  refine x_m hA rfl fun ac hA => ?_
  refine x_v hA (r_extract rfl (hA.ev rfl) rfl) rfl fun ac hA => ?_
  refine x_v hA (r_extract rfl (hA.ev rfl) rfl) rfl fun ac hA => ?_
  refine x_m hA rfl fun ac hA => ?_
  refine x_m hA rfl fun ac hA => ?_
  refine wn (hK327 _ _ ?_)
  refine ws fun K341 hK341 => ?_
  refine x_m hA rfl fun ac hA => ?_
  replace hS := hS.pk 1
  replace hS := hS.pk 1
  obtain ⟨Z342, wz343, hS, h344, sb345⟩ := SH.freeze (n := m337) (c := d338) (A := B336) hS
  have h346 := Imm.sub h340 sb345
  obtain ⟨y347, h348, hF⟩ := bnd hF
  refine x_call en14 hA (F_segment_Open (L := L) y332.1 B336 m337 d338 h348 h344 (Imm.sub hG0 (Sub.trans (Sub.trans sb331 h339) sb345)) hS) (fun v ac w hR hA => ?_) rfl rfl rfl rfl rfl
  obtain ⟨Z349, wz350, p351, rfl, h352, hS⟩ := hR
  have h353 := Imm.sub h346 h352
  have h354 := Imm.sub h344 h352
  refine x_m hA rfl fun ac hA => ?_
  refine x_v hA (r_extract rfl (hA.ev rfl) rfl) rfl fun ac hA => ?_
  refine x_v hA (r_extract rfl (hA.ev rfl) rfl) rfl fun ac hA => ?_
  refine x_m hA rfl fun ac hA => ?_
  refine x_m hA rfl fun ac hA => ?_
  refine wn (hK341 _ _ ?_)
  refine wp_seq_k fun K355 hK355 => ?_
  refine wp_seq_k fun K356 hK356 => ?_
  have hj1 : ∀ (b358 : Bool), law07_awake_j1 y347 b358 = some y → ∀ (ac : Act) (w : World), FR 58 [] ac [(5, .pointer p351), (34, .bool b358)] → SH r (optP (obj83 Z349 wz350) p351 y347.1 :: zone Z349 wz350 :: L) w → K356 ac w := by
   intro b358 hF ac w hA hS
   unfold law07_awake_j1 at hF
   refine hK356 _ _ ?_
   refine c_if hA rfl (fun hb359 => ?_) fun hb359 => ?_
   ·replace hF := ift hb359 hF
    refine ws fun K360 hK360 => ?_
    refine x_m hA rfl fun ac hA => ?_
    refine wn (hK360 _ _ ?_)
    refine wp_ret ?_
    replace hS := hS.drop 0
    cases hF
    refine hQ _ _ ?_
    refine lv Tryd.results10 hA rfl ?_
    exact ⟨Z349, wz350, rfl, (Sub.trans (Sub.trans (Sub.trans sb331 h339) sb345) h352), hS⟩
   replace hF := iff' hb359 hF
   refine wp_skip ?_
   refine hK355 _ _ ?_
   refine ws fun K361 hK361 => ?_
   refine x_m hA rfl fun ac hA => ?_
   obtain ⟨y362, h363, hF⟩ := bnd hF
   refine x_call en15 hA (F_segment_Segment_Chunks (L := zone Z349 wz350 :: L) y347.1 p351 h363 0 rfl hS) (fun v ac w hR hA => ?_) rfl rfl rfl rfl rfl
   obtain ⟨B364, m365, d366, rfl, hS⟩ := hR
   refine x_m hA rfl fun ac hA => ?_
   refine wn (hK361 _ _ ?_)
   refine ws fun K367 hK367 => ?_
   refine x_m hA rfl fun ac hA => ?_
   refine x_len Tryd.underlying38 (hS.rd 0 rfl).2.1 hA (fun ac hA => ?_) rfl rfl rfl rfl rfl
   refine x_v hA (r_eqI rfl (hA.ev rfl) (hA.ev rfl)) rfl fun ac hA => ?_
   refine x_m hA rfl fun ac hA => ?_
   refine bcase (b := (y362.length : Int) == 3) (fun hb368 => ?_) fun hb368 => ?_
   ·replace hF := ift hb368 hF
    refine x_on hb368 hA ?_ rfl rfl rfl
    refine x_m hA rfl fun ac hA => ?_
    refine x_on hb368 hA ?_ rfl rfl rfl
    obtain ⟨x369, h370, hF⟩ := bnd hF
    refine x_ia Tryd.underlying38 sz41 (hS.rd 0 rfl) h370 hA (fun ac hA => ?_) rfl rfl rfl rfl rfl rfl
    refine x_on hb368 hA ?_ rfl rfl rfl
    refine x_fae (m := (0 : Int).toNat * 8) fa41_0 hA (fun ac hA => ?_) rfl rfl rfl rfl rfl
    refine x_on hb368 hA ?_ rfl rfl rfl
    obtain ⟨cs, hV, hc371⟩ := el (hS.rd 0 rfl) h370
    obtain rfl := hV
    refine x_ld Tryd.underlying3 (hc371 0 _ rfl) hA (fun ac hA => ?_) rfl rfl rfl rfl rfl rfl
    refine x_on hb368 hA ?_ rfl rfl rfl
    refine x_v hA (r_eqI rfl (hA.ev rfl) (hA.ev rfl)) rfl fun ac hA => ?_
    refine x_pickt hb368 hA (fun ac hA => ?_) rfl rfl rfl rfl rfl rfl
    refine x_m hA rfl fun ac hA => ?_
    refine bcase (b := x369.f0 == 64) (fun hb372 => ?_) fun hb372 => ?_
    ·replace hF := ift hb372 hF
     refine x_on hb372 hA ?_ rfl rfl rfl
     refine x_m hA rfl fun ac hA => ?_
     refine x_on hb372 hA ?_ rfl rfl rfl
     obtain ⟨x373, h374, hF⟩ := bnd hF
     refine x_ia Tryd.underlying38 sz41 (hS.rd 0 rfl) h374 hA (fun ac hA => ?_) rfl rfl rfl rfl rfl rfl
     refine x_on hb372 hA ?_ rfl rfl rfl
     refine x_fae (m := (2 : Int).toNat * 8) fa41_0 hA (fun ac hA => ?_) rfl rfl rfl rfl rfl
     refine x_on hb372 hA ?_ rfl rfl rfl
     obtain ⟨cs, hV, hc375⟩ := el (hS.rd 0 rfl) h374
     obtain rfl := hV
     refine x_ld Tryd.underlying3 (hc375 0 _ rfl) hA (fun ac hA => ?_) rfl rfl rfl rfl rfl rfl
     refine x_on hb372 hA ?_ rfl rfl rfl
     refine x_v hA (r_eqI rfl (hA.ev rfl) (hA.ev rfl)) rfl fun ac hA => ?_
     refine x_pickt hb372 hA (fun ac hA => ?_) rfl rfl rfl rfl rfl rfl
     refine x_m hA rfl fun ac hA => ?_
     refine bcase (b := x373.f0 == 2) (fun hb376 => ?_) fun hb376 => ?_
     ·replace hF := ift hb376 hF
      refine x_pickt hb376 hA (fun ac hA => ?_) rfl rfl rfl rfl rfl rfl
      refine x_m hA rfl fun ac hA => ?_
      refine x_pickt rfl hA (fun ac hA => ?_) rfl rfl rfl rfl rfl rfl
      refine x_m hA rfl fun ac hA => ?_
      refine wn (hK367 _ _ ?_)
      refine wp_ret ?_
      replace hS := hS.drop 0
      replace hS := hS.drop 0
      cases hF
      refine hQ _ _ ?_
      refine lv Tryd.results10 hA rfl ?_
      exact ⟨Z349, wz350, rfl, (Sub.trans (Sub.trans (Sub.trans sb331 h339) sb345) h352), hS⟩
     replace hF := iff' hb376 hF
     refine x_pickf hb376 hA (fun ac hA => ?_) rfl rfl rfl rfl rfl rfl
     refine x_m hA rfl fun ac hA => ?_
     refine x_pickf rfl hA (fun ac hA => ?_) rfl rfl rfl rfl rfl rfl
     refine x_m hA rfl fun ac hA => ?_
     refine wn (hK367 _ _ ?_)
     refine wp_ret ?_
     replace hS := hS.drop 0
     replace hS := hS.drop 0
     cases hF
     refine hQ _ _ ?_
     refine lv Tryd.results10 hA rfl ?_
     exact ⟨Z349, wz350, rfl, (Sub.trans (Sub.trans (Sub.trans sb331 h339) sb345) h352), hS⟩
    replace hF := iff' hb372 hF
    refine x_off hb372 hA (fun ac hA => ?_) rfl rfl rfl rfl rfl
    refine x_off hb372 hA (fun ac hA => ?_) rfl rfl rfl rfl rfl
    refine x_off hb372 hA (fun ac hA => ?_) rfl rfl rfl rfl rfl
    refine x_off hb372 hA (fun ac hA => ?_) rfl rfl rfl rfl rfl
    refine x_off hb372 hA (fun ac hA => ?_) rfl rfl rfl rfl rfl
    refine x_pickf hb372 hA (fun ac hA => ?_) rfl rfl rfl rfl rfl rfl
    refine x_m hA rfl fun ac hA => ?_
    refine x_pickf rfl hA (fun ac hA => ?_) rfl rfl rfl rfl rfl rfl
    refine x_m hA rfl fun ac hA => ?_
    refine x_pickf rfl hA (fun ac hA => ?_) rfl rfl rfl rfl rfl rfl
    refine x_m hA rfl fun ac hA => ?_
    refine wn (hK367 _ _ ?_)
    refine wp_ret ?_
    replace hS := hS.drop 0
    replace hS := hS.drop 0
    cases hF
    refine hQ _ _ ?_
    refine lv Tryd.results10 hA rfl ?_
    exact ⟨Z349, wz350, rfl, (Sub.trans (Sub.trans (Sub.trans sb331 h339) sb345) h352), hS⟩
   replace hF := iff' hb368 hF
   refine x_off hb368 hA (fun ac hA => ?_) rfl rfl rfl rfl rfl
   refine x_off hb368 hA (fun ac hA => ?_) rfl rfl rfl rfl rfl
   refine x_off hb368 hA (fun ac hA => ?_) rfl rfl rfl rfl rfl
   refine x_off hb368 hA (fun ac hA => ?_) rfl rfl rfl rfl rfl
   refine x_off hb368 hA (fun ac hA => ?_) rfl rfl rfl rfl rfl
   refine x_pickf hb368 hA (fun ac hA => ?_) rfl rfl rfl rfl rfl rfl
   refine x_m hA rfl fun ac hA => ?_
   refine x_off rfl hA (fun ac hA => ?_) rfl rfl rfl rfl rfl
   refine x_off rfl hA (fun ac hA => ?_) rfl rfl rfl rfl rfl
   refine x_off rfl hA (fun ac hA => ?_) rfl rfl rfl rfl rfl
   refine x_off rfl hA (fun ac hA => ?_) rfl rfl rfl rfl rfl
   refine x_off rfl hA (fun ac hA => ?_) rfl rfl rfl rfl rfl
   refine x_pickf rfl hA (fun ac hA => ?_) rfl rfl rfl rfl rfl rfl
   refine x_m hA rfl fun ac hA => ?_
   refine x_pickf rfl hA (fun ac hA => ?_) rfl rfl rfl rfl rfl rfl
   refine x_m hA rfl fun ac hA => ?_
   refine x_pickf rfl hA (fun ac hA => ?_) rfl rfl rfl rfl rfl rfl
   refine x_m hA rfl fun ac hA => ?_
   refine wn (hK367 _ _ ?_)
   refine wp_ret ?_
   replace hS := hS.drop 0
   replace hS := hS.drop 0
   cases hF
   refine hQ _ _ ?_
   refine lv Tryd.results10 hA rfl ?_
   exact ⟨Z349, wz350, rfl, (Sub.trans (Sub.trans (Sub.trans sb331 h339) sb345) h352), hS⟩
  refine wp_reg ?_
  refine x_m hA rfl fun ac hA => ?_
  refine x_v hA (r_neI rfl (hA.ev rfl) (hA.ev rfl)) rfl fun ac hA => ?_
  refine x_m hA rfl fun ac hA => ?_
  refine bcase (b := y332.2 != 0) (fun hb377 => ?_) fun hb377 => ?_
  ·replace hF := ift hb377 hF
   refine x_off hb377 hA (fun ac hA => ?_) rfl rfl rfl rfl rfl
   refine x_off hb377 hA (fun ac hA => ?_) rfl rfl rfl rfl rfl
   refine x_pickt hb377 hA (fun ac hA => ?_) rfl rfl rfl rfl rfl rfl
   refine wpList_nil ?_
   exact hj1 true hF ac w (hA.sub _ rfl) hS
  replace hF := iff' hb377 hF
  refine x_on hb377 hA ?_ rfl rfl rfl
  refine x_m hA rfl fun ac hA => ?_
  refine x_on hb377 hA ?_ rfl rfl rfl
  refine x_v hA (r_neI rfl (hA.ev rfl) (hA.ev rfl)) rfl fun ac hA => ?_
  refine x_pickf hb377 hA (fun ac hA => ?_) rfl rfl rfl rfl rfl rfl
  refine wpList_nil ?_
  exact hj1 (y347.2 != 0) hF ac w (hA.sub _ rfl) hS
 obtain ⟨t432, hl432, hF⟩ := bnd hF
 have hx432_0 : ∀ (l429 : (List S44)), (l429) = t432 → ∀ (A430 : Option Addr) (n431 : Nat) (c432 : Nat) (ac : Act) (w : World), FR 58 [] ac [(1, .slice A430 n431 c432)] → SH r (own k44 44 A430 n431 c432 l429 :: zone Z wz :: L) w → Kx252 ac w := by
  intro l429 ht A430 n431 c432 ac w hA hS
  subst ht
  replace hF : law07_awake_x1_0 l429 = some y := hF
  unfold law07_awake_x1_0 at hF
  exact hb1 l429 hF A430 n431 c432 ac w (hA.sub _ rfl) hS
 replace hS := SH.nil_own (d := k44) (e := 44) hS
 refine wp_loop_fn hl432 (fun s ac w => ∃ (A406 : Option Addr) (n407 : Nat) (c408 : Nat), FR 58 [] ac [(1, .slice A406 n407 c408), (2, .int .i64 s.2)] ∧ SH r (own k44 44 A406 n407 c408 s.1 :: zone Z wz :: L) w) ⟨none, 0, 0, hA.sub _ rfl, hS⟩ ?_
 intro N432 s432 o432 hF N432_ T432_ ac w hLab
 obtain ⟨l405, x409⟩ := s432
 replace hF : law07_awake_l1 l405 x409 = some o432 := hF
 unfold law07_awake_l1 at hF
 try dsimp only at hLab
 obtain ⟨A406, n407, c408, hA, hS⟩ := hLab
 refine wp_seq_k fun K434 hK434 => ?_
 refine ws fun K435 hK435 => ?_
 refine x_m hA rfl fun ac hA => ?_
 refine x_v hA (r_ltI rfl (hA.ev rfl) (hA.ev rfl)) rfl fun ac hA => ?_
 refine wn (hK435 _ _ ?_)
 refine c_if hA rfl (fun hb436 => ?_) fun hb436 => ?_
 ·replace hF := ift hb436 hF
  refine wp_skip ?_
  refine hK434 _ _ ?_
  refine wp_seq_k fun K437 hK437 => ?_
  refine wp_block_k fun Kx438 hKx438 => ?_
  refine wp_reg ?_
  refine x_m hA rfl fun ac hA => ?_
  refine x_m hA rfl fun ac hA => ?_
  obtain ⟨x439, h440, hF⟩ := ltt_ hF
  refine x_v (v := .int .u64 x439) hA (rv_i h440 (r_convI Tryd.underlying3 Tryd.underlying31 rfl (hA.ev rfl))) rfl fun ac hA => ?_
  refine x_m hA rfl fun ac hA => ?_
  refine x_v (v := .agg #[.int .u64 x439, .int .i64 0, .int .i64 x409, str [], .float .f64 0]) hA (r_build (ps := #[(0, .int .u64 x439), (2, .int .i64 x409)]) rfl (mapev2 hA rfl) (fun w => by kernel_rfl)) rfl fun ac hA => ?_
  refine x_bsl (d := k44) (e := 44) (ps := #[(0, .agg #[.int .u64 x439, .int .i64 0, .int .i64 x409, str [], .float .f64 0])]) (cells := [.int .u64 x439, .int .i64 0, .int .i64 x409, str [], .float .f64 0]) (xs := [(⟨x439, 0, x409, [], 0⟩ : S44)]) (fun w => by kernel_rfl) rfl ⟨[.int .u64 x439, .int .i64 0, .int .i64 x409, str [], .float .f64 0], _, rfl, rfl, rfl⟩ hA hS (fun g441 ac w hS hA => ?_) rfl rfl rfl rfl rfl rfl
  obtain ⟨h442, hF⟩ := chk_some hF
  have hr := hS.rd 0 rfl
  refine x_app 1 inf44 Tryd.underlying22 hA hS hr.1 hr.2.1 h442 rfl (fun A443 n444 c445 ac w hS hA => ?_) rfl rfl rfl rfl rfl rfl rfl rfl rfl
  refine x_m hA rfl fun ac hA => ?_
  refine wpList_nil ?_
  refine hKx438 _ _ ?_
  refine hK437 _ _ ?_
  refine wp_reg ?_
  refine x_m hA rfl fun ac hA => ?_
  obtain ⟨x446, h447, hF⟩ := ltt_ hF
  refine x_v (v := .int .i64 x446) hA (rv_i h447 (r_add rfl (hA.ev rfl) (hA.ev rfl))) rfl fun ac hA => ?_
  refine x_m hA rfl fun ac hA => ?_
  refine wpList_nil ?_
  replace hS := hS.drop 1
  cases hF
  exact ⟨_, N432_ _ rfl, A443, n444, c445, hA.sub _ rfl, hS⟩
 replace hF := iff' hb436 hF
 refine wp_exit ?_
 cases hF
 exact hx432_0 l405 (T432_ _ rfl) A406 n407 c408 ac w (hA.sub _ rfl) hS
end Go.Proofs.YteodeedejjcmgaaDoor.M
namespace Go.Proofs.YteodeedejjcmgaaDoor.M
open Go Go.RowKit Go.Proofs.YteodeedejjcmgaaDoor.E
set_option linter.unusedVariables false
set_option linter.unusedSimpArgs false
noncomputable def law07_SegmentNil (a0 : S33) : Option (Bool) :=
  (segment_Segment_Scan none a0).bind fun y105 => ((segment_Segment_Range none).bind fun y114 => ((law07_awake).bind fun y117 => (if y117 = true then (if (y105.2.2 == 5) = true then (ltt (IntKind.i64.wrap ((y105.1.length : Int) + y105.2.1)) fun x124 => ((segment_Segment_Parts none).bind fun y126 => (ltt (IntKind.i64.wrap (x124 + y126)) fun x128 => ((segment_Segment_Chunks none).bind fun y130 => (ltt (IntKind.i64.wrap (x128 + (y130.length : Int))) fun x135 => (if (x135 == 0) = true then (ltt (IntKind.u64.wrap (y114.1 + y114.2)) fun x138 => (some (x138 == 0))) else (some false))))))) else (some false)) else (some false))))
end Go.Proofs.YteodeedejjcmgaaDoor.M
namespace Go.Proofs.YteodeedejjcmgaaDoor.M
open Go Go.RowKit Go.Proofs.YteodeedejjcmgaaDoor.E
set_option linter.unusedVariables false
set_option maxRecDepth 100000
set_option maxHeartbeats 4000000
set_option linter.unusedSimpArgs false
theorem F_law07_SegmentNil {r : World} {L : List HP} {w : World} {Z : Nat → Prop} {wz : World} (a0 : S33) {y : (Bool)} (hF : law07_SegmentNil a0 = some y) (hG0 : Imm Z wz (kI .u32) (some ⟨0, 0, none⟩) 16 16 gl_page_table) (hS : SH r (zone Z wz :: L) w) :
  Ret Tryd.prog 9 #[.agg #[.int .u64 a0.f0, .int .u64 a0.f1, .int .i64 a0.f2, .int .i64 a0.f3]] w fun v w' => ∃ (Z' : Nat → Prop) (wz' : World), v = .bool y ∧ Sub Z wz Z' wz' ∧ SH r (zone Z' wz' :: L) w' := by
 refine enter Tryd.func9 rfl Tryd.ntmps9 [(0, .agg #[.int .u64 a0.f0, .int .u64 a0.f1, .int .i64 a0.f2, .int .i64 a0.f3])] rfl (by simp) ?_
 intro ac hA Qf hQ hQn
 unfold law07_SegmentNil at hF
 refine ws fun K101 hK101 => ?_
 refine x_box hA hS (fun g102 ac w hS hA => ?_) rfl rfl rfl rfl rfl rfl
 refine x_m hA rfl fun ac hA => ?_
 refine wn (hK101 _ _ ?_)
 refine ws fun K103 hK103 => ?_
 refine x_m hA rfl fun ac hA => ?_
 refine wn (hK103 _ _ ?_)
 refine ws fun K104 hK104 => ?_
 refine x_m hA rfl fun ac hA => ?_
 refine x_lda (ad := ⟨g102, 0, none⟩) (cs := [.int .u64 a0.f0, .int .u64 a0.f1, .int .i64 a0.f2, .int .i64 a0.f3]) Tryd.underlying33 sz33 (fun j u h => by rw [add_mk, Nat.zero_add]; exact hS.cell 0 rfl j u h) hA (fun ac hA => ?_) rfl rfl rfl rfl rfl rfl
 replace hS := SH.optN (obj83 Z wz) hS
 replace hS := hS.pk 2
 replace hS := hS.pk 1
 obtain ⟨y105, h106, hF⟩ := bnd hF
 refine x_call en18 hA (F_segment_Segment_Scan (L := blk g102 33 [.int .u64 a0.f0, .int .u64 a0.f1, .int .i64 a0.f2, .int .i64 a0.f3] :: L) none a0 none h106 hG0 hS) (fun v ac w hR hA => ?_) rfl rfl rfl rfl rfl
 obtain ⟨Z107, wz108, B109, m110, d111, rfl, h112, hS⟩ := hR
 refine x_m hA rfl fun ac hA => ?_
 refine x_v hA (r_extract rfl (hA.ev rfl) rfl) rfl fun ac hA => ?_
 refine x_v hA (r_extract rfl (hA.ev rfl) rfl) rfl fun ac hA => ?_
 refine x_v hA (r_extract rfl (hA.ev rfl) rfl) rfl fun ac hA => ?_
 refine x_m hA rfl fun ac hA => ?_
 refine x_m hA rfl fun ac hA => ?_
 refine x_m hA rfl fun ac hA => ?_
 refine wn (hK104 _ _ ?_)
 refine ws fun K113 hK113 => ?_
 refine x_m hA rfl fun ac hA => ?_
 replace hS := SH.optN (obj83 Z107 wz108) hS
 obtain ⟨y114, h115, hF⟩ := bnd hF
 refine x_call en20 hA (F_segment_Segment_Range (L := own k44 44 B109 m110 d111 y105.1 :: optP (obj83 Z107 wz108) none none :: zone Z107 wz108 :: blk g102 33 [.int .u64 a0.f0, .int .u64 a0.f1, .int .i64 a0.f2, .int .i64 a0.f3] :: L) none none h115 2 rfl hS) (fun v ac w hR hA => ?_) rfl rfl rfl rfl rfl
 obtain ⟨rfl, hS⟩ := hR
 refine x_m hA rfl fun ac hA => ?_
 refine x_v hA (r_extract rfl (hA.ev rfl) rfl) rfl fun ac hA => ?_
 refine x_v hA (r_extract rfl (hA.ev rfl) rfl) rfl fun ac hA => ?_
 refine x_m hA rfl fun ac hA => ?_
 refine x_m hA rfl fun ac hA => ?_
 refine wn (hK113 _ _ ?_)
 refine ws fun K116 hK116 => ?_
 replace hS := hS.pk 3
 obtain ⟨y117, h118, hF⟩ := bnd hF
 refine x_call en10 hA (F_law07_awake (L := optP (obj83 Z107 wz108) none none :: own k44 44 B109 m110 d111 y105.1 :: optP (obj83 Z107 wz108) none none :: blk g102 33 [.int .u64 a0.f0, .int .u64 a0.f1, .int .i64 a0.f2, .int .i64 a0.f3] :: L) h118 (Imm.sub hG0 h112) hS) (fun v ac w hR hA => ?_) rfl rfl rfl rfl rfl
 obtain ⟨Z119, wz120, rfl, h121, hS⟩ := hR
 refine x_m hA rfl fun ac hA => ?_
 refine bcase (b := y117) (fun hb122 => ?_) fun hb122 => ?_
 ·replace hF := ift hb122 hF
  refine x_on hb122 hA ?_ rfl rfl rfl
  refine x_m hA rfl fun ac hA => ?_
  refine x_on hb122 hA ?_ rfl rfl rfl
  refine x_v hA (r_eqI rfl (hA.ev rfl) (hA.ev rfl)) rfl fun ac hA => ?_
  refine x_pickt hb122 hA (fun ac hA => ?_) rfl rfl rfl rfl rfl rfl
  refine x_m hA rfl fun ac hA => ?_
  refine bcase (b := y105.2.2 == 5) (fun hb123 => ?_) fun hb123 => ?_
  ·replace hF := ift hb123 hF
   refine x_on hb123 hA ?_ rfl rfl rfl
   refine x_m hA rfl fun ac hA => ?_
   refine x_on hb123 hA ?_ rfl rfl rfl
   refine x_len Tryd.underlying22 (hS.rd 2 rfl).2.1 hA (fun ac hA => ?_) rfl rfl rfl rfl rfl
   refine x_on hb123 hA ?_ rfl rfl rfl
   refine x_m hA rfl fun ac hA => ?_
   refine x_on hb123 hA ?_ rfl rfl rfl
   obtain ⟨x124, h125, hF⟩ := ltt_ hF
   refine x_v (v := .int .i64 x124) hA (rv_i h125 (r_add rfl (hA.ev rfl) (hA.ev rfl))) rfl fun ac hA => ?_
   refine x_on hb123 hA ?_ rfl rfl rfl
   refine x_m hA rfl fun ac hA => ?_
   refine x_on hb123 hA ?_ rfl rfl rfl
   replace hS := SH.optN (obj83 Z119 wz120) hS
   obtain ⟨y126, h127, hF⟩ := bnd hF
   refine x_call en22 hA (F_segment_Segment_Parts (L := zone Z119 wz120 :: optP (obj83 Z107 wz108) none none :: own k44 44 B109 m110 d111 y105.1 :: optP (obj83 Z107 wz108) none none :: blk g102 33 [.int .u64 a0.f0, .int .u64 a0.f1, .int .i64 a0.f2, .int .i64 a0.f3] :: L) none none h127 0 rfl hS) (fun v ac w hR hA => ?_) rfl rfl rfl rfl rfl
   obtain ⟨rfl, hS⟩ := hR
   refine x_on hb123 hA ?_ rfl rfl rfl
   obtain ⟨x128, h129, hF⟩ := ltt_ hF
   refine x_v (v := .int .i64 x128) hA (rv_i h129 (r_add rfl (hA.ev rfl) (hA.ev rfl))) rfl fun ac hA => ?_
   refine x_on hb123 hA ?_ rfl rfl rfl
   refine x_m hA rfl fun ac hA => ?_
   refine x_on hb123 hA ?_ rfl rfl rfl
   replace hS := SH.optN (obj83 Z119 wz120) hS
   obtain ⟨y130, h131, hF⟩ := bnd hF
   refine x_call en15 hA (F_segment_Segment_Chunks (L := optP (obj83 Z119 wz120) none none :: zone Z119 wz120 :: optP (obj83 Z107 wz108) none none :: own k44 44 B109 m110 d111 y105.1 :: optP (obj83 Z107 wz108) none none :: blk g102 33 [.int .u64 a0.f0, .int .u64 a0.f1, .int .i64 a0.f2, .int .i64 a0.f3] :: L) none none h131 1 rfl hS) (fun v ac w hR hA => ?_) rfl rfl rfl rfl rfl
   obtain ⟨B132, m133, d134, rfl, hS⟩ := hR
   refine x_on hb123 hA ?_ rfl rfl rfl
   refine x_len Tryd.underlying38 (hS.rd 0 rfl).2.1 hA (fun ac hA => ?_) rfl rfl rfl rfl rfl
   refine x_on hb123 hA ?_ rfl rfl rfl
   obtain ⟨x135, h136, hF⟩ := ltt_ hF
   refine x_v (v := .int .i64 x135) hA (rv_i h136 (r_add rfl (hA.ev rfl) (hA.ev rfl))) rfl fun ac hA => ?_
   refine x_on hb123 hA ?_ rfl rfl rfl
   refine x_v hA (r_eqI rfl (hA.ev rfl) (hA.ev rfl)) rfl fun ac hA => ?_
   refine x_pickt hb123 hA (fun ac hA => ?_) rfl rfl rfl rfl rfl rfl
   refine x_m hA rfl fun ac hA => ?_
   refine bcase (b := x135 == 0) (fun hb137 => ?_) fun hb137 => ?_
   ·replace hF := ift hb137 hF
    refine x_on hb137 hA ?_ rfl rfl rfl
    refine x_m hA rfl fun ac hA => ?_
    refine x_on hb137 hA ?_ rfl rfl rfl
    refine x_m hA rfl fun ac hA => ?_
    refine x_on hb137 hA ?_ rfl rfl rfl
    obtain ⟨x138, h139, hF⟩ := ltt_ hF
    refine x_v (v := .int .u64 x138) hA (rv_i h139 (r_add rfl (hA.ev rfl) (hA.ev rfl))) rfl fun ac hA => ?_
    refine x_on hb137 hA ?_ rfl rfl rfl
    refine x_v hA (r_eqI rfl (hA.ev rfl) (hA.ev rfl)) rfl fun ac hA => ?_
    refine x_pickt hb137 hA (fun ac hA => ?_) rfl rfl rfl rfl rfl rfl
    refine x_m hA rfl fun ac hA => ?_
    refine wn (hK116 _ _ ?_)
    refine wp_ret ?_
    replace hS := hS.drop 0
    replace hS := hS.drop 0
    replace hS := hS.drop 0
    replace hS := hS.drop 1
    replace hS := hS.drop 1
    replace hS := hS.drop 1
    replace hS := hS.drop 1
    cases hF
    refine hQ _ _ ?_
    refine lv Tryd.results9 hA rfl ?_
    exact ⟨Z119, wz120, rfl, (Sub.trans h112 h121), hS⟩
   replace hF := iff' hb137 hF
   refine x_off hb137 hA (fun ac hA => ?_) rfl rfl rfl rfl rfl
   refine x_off hb137 hA (fun ac hA => ?_) rfl rfl rfl rfl rfl
   refine x_off hb137 hA (fun ac hA => ?_) rfl rfl rfl rfl rfl
   refine x_off hb137 hA (fun ac hA => ?_) rfl rfl rfl rfl rfl
   refine x_pickf hb137 hA (fun ac hA => ?_) rfl rfl rfl rfl rfl rfl
   refine x_m hA rfl fun ac hA => ?_
   refine wn (hK116 _ _ ?_)
   refine wp_ret ?_
   replace hS := hS.drop 0
   replace hS := hS.drop 0
   replace hS := hS.drop 0
   replace hS := hS.drop 1
   replace hS := hS.drop 1
   replace hS := hS.drop 1
   replace hS := hS.drop 1
   cases hF
   refine hQ _ _ ?_
   refine lv Tryd.results9 hA rfl ?_
   exact ⟨Z119, wz120, rfl, (Sub.trans h112 h121), hS⟩
  replace hF := iff' hb123 hF
  refine x_off hb123 hA (fun ac hA => ?_) rfl rfl rfl rfl rfl
  refine x_off hb123 hA (fun ac hA => ?_) rfl rfl rfl rfl rfl
  refine x_off hb123 hA (fun ac hA => ?_) rfl rfl rfl rfl rfl
  refine x_off hb123 hA (fun ac hA => ?_) rfl rfl rfl rfl rfl
  refine x_off hb123 hA (fun ac hA => ?_) rfl rfl rfl rfl rfl
  refine x_off hb123 hA (fun ac hA => ?_) rfl rfl rfl rfl rfl
  refine x_off hb123 hA (fun ac hA => ?_) rfl rfl rfl rfl rfl
  refine x_off hb123 hA (fun ac hA => ?_) rfl rfl rfl rfl rfl
  refine x_off hb123 hA (fun ac hA => ?_) rfl rfl rfl rfl rfl
  refine x_off hb123 hA (fun ac hA => ?_) rfl rfl rfl rfl rfl
  refine x_off hb123 hA (fun ac hA => ?_) rfl rfl rfl rfl rfl
  refine x_off hb123 hA (fun ac hA => ?_) rfl rfl rfl rfl rfl
  refine x_pickf hb123 hA (fun ac hA => ?_) rfl rfl rfl rfl rfl rfl
  refine x_m hA rfl fun ac hA => ?_
  refine x_off rfl hA (fun ac hA => ?_) rfl rfl rfl rfl rfl
  refine x_off rfl hA (fun ac hA => ?_) rfl rfl rfl rfl rfl
  refine x_off rfl hA (fun ac hA => ?_) rfl rfl rfl rfl rfl
  refine x_off rfl hA (fun ac hA => ?_) rfl rfl rfl rfl rfl
  refine x_pickf rfl hA (fun ac hA => ?_) rfl rfl rfl rfl rfl rfl
  refine x_m hA rfl fun ac hA => ?_
  refine wn (hK116 _ _ ?_)
  refine wp_ret ?_
  replace hS := hS.drop 1
  replace hS := hS.drop 1
  replace hS := hS.drop 1
  replace hS := hS.drop 1
  cases hF
  refine hQ _ _ ?_
  refine lv Tryd.results9 hA rfl ?_
  exact ⟨Z119, wz120, rfl, (Sub.trans h112 h121), hS⟩
 replace hF := iff' hb122 hF
 refine x_off hb122 hA (fun ac hA => ?_) rfl rfl rfl rfl rfl
 refine x_off hb122 hA (fun ac hA => ?_) rfl rfl rfl rfl rfl
 refine x_pickf hb122 hA (fun ac hA => ?_) rfl rfl rfl rfl rfl rfl
 refine x_m hA rfl fun ac hA => ?_
 refine x_off rfl hA (fun ac hA => ?_) rfl rfl rfl rfl rfl
 refine x_off rfl hA (fun ac hA => ?_) rfl rfl rfl rfl rfl
 refine x_off rfl hA (fun ac hA => ?_) rfl rfl rfl rfl rfl
 refine x_off rfl hA (fun ac hA => ?_) rfl rfl rfl rfl rfl
 refine x_off rfl hA (fun ac hA => ?_) rfl rfl rfl rfl rfl
 refine x_off rfl hA (fun ac hA => ?_) rfl rfl rfl rfl rfl
 refine x_off rfl hA (fun ac hA => ?_) rfl rfl rfl rfl rfl
 refine x_off rfl hA (fun ac hA => ?_) rfl rfl rfl rfl rfl
 refine x_off rfl hA (fun ac hA => ?_) rfl rfl rfl rfl rfl
 refine x_off rfl hA (fun ac hA => ?_) rfl rfl rfl rfl rfl
 refine x_off rfl hA (fun ac hA => ?_) rfl rfl rfl rfl rfl
 refine x_off rfl hA (fun ac hA => ?_) rfl rfl rfl rfl rfl
 refine x_pickf rfl hA (fun ac hA => ?_) rfl rfl rfl rfl rfl rfl
 refine x_m hA rfl fun ac hA => ?_
 refine x_off rfl hA (fun ac hA => ?_) rfl rfl rfl rfl rfl
 refine x_off rfl hA (fun ac hA => ?_) rfl rfl rfl rfl rfl
 refine x_off rfl hA (fun ac hA => ?_) rfl rfl rfl rfl rfl
 refine x_off rfl hA (fun ac hA => ?_) rfl rfl rfl rfl rfl
 refine x_pickf rfl hA (fun ac hA => ?_) rfl rfl rfl rfl rfl rfl
 refine x_m hA rfl fun ac hA => ?_
 refine wn (hK116 _ _ ?_)
 refine wp_ret ?_
 replace hS := hS.drop 1
 replace hS := hS.drop 1
 replace hS := hS.drop 1
 replace hS := hS.drop 1
 cases hF
 refine hQ _ _ ?_
 refine lv Tryd.results9 hA rfl ?_
 exact ⟨Z119, wz120, rfl, (Sub.trans h112 h121), hS⟩
end Go.Proofs.YteodeedejjcmgaaDoor.M
namespace Go.Proofs.YteodeedejjcmgaaDoor.segmentNil
open Go Go.RowKit Go.ChangeShapes Go.WideShapes Go.ChangeAt Go.Proofs.YteodeedejjcmgaaDoor.E Go.Proofs.YteodeedejjcmgaaDoor.M
set_option linter.unusedVariables false
theorem own : ownKnob Tryd.prog.godebug = none := by kernel_rfl
theorem laidOut : laidOutB Tryd.prog = true := by kernel_rfl
theorem gN : Tryd.prog.globalNamed "headrace/page.table" = some 0 := by kernel_rfl
theorem gT : (Tryd.prog.globals[0]?).map (·.type) = some 130 := by kernel_rfl
theorem door_met (os : Os) (args : Array Value) : laidMetH Tryd.prog Rows.segmentNilRow.laid ((World.doorLaid Tryd.prog 400 os).forCall (fun _ _ => 0) ⟨#[], args, []⟩).memory :=
  laidMetH_of_parts3 (fuel := 8) (laidMet_of_run' 8 (by kernel_rfl) (by kernel_rfl)) (by kernel_rfl) (by kernel_rfl)
theorem of_laid {W : World} (h : laidMetH Tryd.prog Rows.segmentNilRow.laid W) : Imm (HeapZ W) W (kI .u32) (some ⟨0, 0, none⟩) 16 16 M.gl_page_table := by
  rw [MakeChecks.laidMetH_plain _ _ _ (by kernel_rfl)] at h
  exact tab_imm gN gT Tryd.underlying130 Tryd.underlying48 ce48 rfl (by decide) h
def Pure : Prop := ∀ (a0 : M.S33), M.g33 a0 → M.law07_SegmentNil a0 = some true
set_option maxRecDepth 100000 in
theorem lifted (hP : Pure) (os : Os) (started : os.Started) (H : Type) (enc : TypeId × Value → H) :
    ReturnsInHanded {} Tryd.checked os 9 .any (fun w args => (Rows.segmentNilSpec.pre enc Tryd.prog Tryd.f9 [] false w args ∧ laidMetH Tryd.prog Rows.segmentNilRow.laid w) ∧ sizedMet enc Tryd.prog Tryd.f9 (OpenSpec.ofChange Rows.segmentNilSpec) false w args)
      (Rows.segmentNilSpec.post enc Tryd.prog Tryd.f9 false true false false) := by
  refine returnsInHanded_of_change_and (C := Tryd.checked) (X := fun w _ => laidMetH Tryd.prog Rows.segmentNilRow.laid w) (fun _ _ _ hh h => h.of_heap hh) own started (by kernel_rfl) Tryd.func9
    (ChangeSpec.witness_shaped (enc := enc) (C := Tryd.checked) (os := os) (X := fun w _ => laidMetH Tryd.prog Rows.segmentNilRow.laid w) false (World.doorLaid Tryd.prog 400 os) #[.agg #[.int .u64 0, .int .u64 0, .int .i64 0, .int .i64 0]] 8 rfl (World.shaped_of_RefB (by kernel_rfl) (by kernel_rfl)) (by kernel_rfl) (by kernel_rfl) (by kernel_rfl) (door_met os _)) ?_
  intro W base args ds gs before hval0 hW hcnd hsz0 hL _
  have hsz : (DataW.weightsEach Tryd.prog (Tryd.f9.params.toList ++ Rows.segmentNilSpec.plain.varTypes Tryd.prog) (ds ++ gs)).all (· ≤ reachBytes) = true := hsz0
  have hval : ∀ (j : Nat) t v, Tryd.f9.params[j]? = some t → args[j]? = some v → Value.okWide Tryd.prog W .any base t v := hval0
  have hW' := hW
  obtain ⟨p, q, hA0, hV, rfl, hfz, hnd⟩ := hW
  have hA : DataW.TrodAll enc Tryd.prog W 0 (fun _ => true) true Tryd.f9.params.toList args.toList ds p := hA0
  rw [Tryd.params9] at hA hval hsz
  obtain ⟨v0, vs0, d0, ds0, p0, q0, hargs, rfl, rfl, h0, r0⟩ := trodAll_cons hA
  obtain ⟨rfl, rfl, rfl⟩ := trodAll_nil r0
  obtain rfl : args = #[v0] := by cases args; simp_all
  obtain ⟨rfl, rfl⟩ := trodVars_none hV
  have k0 := h0
  have lt0 : ∀ x ∈ p0, x.block < W.heap.size := by obtain ⟨m, hm⟩ := k0; exact DataW.trod_lt m _ _ _ hm
  obtain ⟨x0, hx0, g0⟩ := Opens.arg op33 h0 (Wt.of hsz (j := 0) rfl rfl)
  obtain ⟨⟨u0⟩, rfl, _⟩ := okWide_struct Tryd.underlying33 (hval 0 33 v0 rfl rfl)
  cases (show u0 = [.int .u64 x0.f0, .int .u64 x0.f1, .int .i64 x0.f2, .int .i64 x0.f3] from hx0)
  clear hA0 hval0 hsz0 hsz
  refine Calls.mono (M.F_law07_SegmentNil (Z := HeapZ W) (wz := W) x0 (hP x0 g0) (of_laid hL) (L := []) (SH.start W)) ?_
  rintro e W' ⟨v, rfl, Z', wz', rfl, hs, hS⟩
  have bel := SH.below hS hs
  exact ⟨_, rfl, _, _, _, [], _, [], hW', trodAll_mk1 (shut_bool Tryd.underlying4 _), (trodAll_cons_mk (Below.trod laidOut (by kernel_rfl) (of_decide_eq_true (by kernel_rfl)) k0 bel lt0) trodAll_mk0), rfl, bel.frame _, fun h => by cases h⟩
theorem over (hP : Pure) : Rows.segmentNilRow.holds Tryd.pinned (OpenSpec.ofChange Rows.segmentNilSpec) :=
  OpenClaim.holds_of_wide 9 Tryd.f9 rfl rfl rfl rfl rfl rfl rfl ⟨rfl, rfl, rfl, rfl, rfl⟩ rfl rfl rfl rfl rfl (by kernel_rfl) Tryd.func9 (by kernel_rfl)
    (of_decide_eq_true (by kernel_rfl)) (by unfold Func.isWrapper; first | (rw [if_pos (by decide +kernel)]; kernel_rfl) | (rw [if_neg (by decide +kernel)]; exact ⟨rfl, rfl⟩))
    (fun os started H enc _ => lifted hP os started H enc)
def hrn : Bool × String := Rows.segmentNilCard.stood.harness
theorem card (hP : Pure) : Rows.SegmentNilCardSaid :=
  Claim7.holds_tied_plain_at .later [] [.data] true hrn true
    (over hP) (fun _ h => by cases h) (by kernel_rfl) (fun _ h => by cases h) segmentNil_row_tie rfl ⟨rfl, rfl⟩ (by kernel_rfl) rfl
    (fun f fn hf hfn => by
      obtain rfl : f = 9 := Option.some.inj ((show Tryd.prog.funcNamed "headrace/headracelaw07.SegmentNil" = some 9 by kernel_rfl).symm.trans hf) |>.symm
      obtain rfl : fn = Tryd.f9 := (Option.some.inj (Tryd.func9.symm.trans hfn)).symm
      exact ⟨by kernel_rfl, fun j t ht => by
        rw [Tryd.params9] at ht
        have hm : t ∈ [33] := by simpa using Array.mem_of_getElem? ht
        have hall : ([33].all fun u => !Tryd.prog.wantsStandIn u) = true := by kernel_rfl
        exact (show Tryd.prog.wantsStandIn t = false by simpa using List.all_eq_true.1 hall t hm)⟩)
    (by kernel_rfl)
end Go.Proofs.YteodeedejjcmgaaDoor.segmentNil
namespace Go.Proofs.YteodeedejjcmgaaDoor.P
open Go Go.RowKit Go.Proofs.YteodeedejjcmgaaDoor.E Go.Proofs.YteodeedejjcmgaaDoor.M
set_option linter.unusedVariables false
set_option linter.unusedSectionVars false
theorem at_nat {α : Type} (xs : List α) (n : Nat) : at_ xs (n : Int) = xs[n]? := by simp [at_]
theorem at_int {α : Type} {xs : List α} {i : Int} {n : Nat} {x : α} (hi : i = n) (h : xs[n]? = some x) : at_ xs i = some x := by subst hi; rw [at_nat, h]
theorem cut_nat {α : Type} {xs : List α} {l u : Nat} (h : l ≤ u) (hu : u ≤ xs.length) : cut_ xs (l : Int) (u : Int) = some ((xs.take u).drop l) := by
  unfold cut_; rw [if_pos (by omega)]; simp
theorem chk_pos {α : Type} {p : Prop} [Decidable p] {x : Option α} (h : p) : chk p x = x := if_pos h
theorem w64 {n : Int} (h : -9223372036854775808 ≤ n) (h' : n ≤ 9223372036854775807) : IntKind.i64.wrap n = n := IntWalk.i64_in n ⟨h, h'⟩
theorem u64w {n : Int} (h : 0 ≤ n) (h' : n < 18446744073709551616) : IntKind.u64.wrap n = n := IntWalk.u64_in n ⟨h, by omega⟩
theorem u8w {n : Int} (h : 0 ≤ n) (h' : n < 256) : IntKind.u8.wrap n = n := IntWalk.u8_in n ⟨h, by omega⟩
theorem lt_ {α β : Type} (e : α) (f : α → Option β) : ltt e f = f e := rfl
theorem loop_at {σ τ : Type} {b : σ → Option (σ ⊕ τ)} (f : Nat → σ) {t : τ} : ∀ (n : Nat) (i : Nat), (∀ k, i ≤ k → k < i + n → b (f k) = some (.inl (f (k + 1)))) → b (f (i + n)) = some (.inr t) → loop b (f i) = some t
  | 0, i, _, he => loop_end he
  | n + 1, i, hs, he => (loop_nxt (hs i (Nat.le_refl _) (by omega))).trans (loop_at f n (i + 1) (fun k h1 h2 => hs k (by omega) (by omega)) (by rw [show i + 1 + n = i + (n + 1) by omega]; exact he))
theorem loop_to {σ τ : Type} {b : σ → Option (σ ⊕ τ)} (f : Nat → σ) {t : τ} (n : Nat) (hs : ∀ k, k < n → b (f k) = some (.inl (f (k + 1)))) (he : b (f n) = some (.inr t)) : loop b (f 0) = some t :=
  loop_at f n 0 (fun k _ h => hs k (by omega)) (by simpa using he)
theorem ofInt_nat (n a : Nat) : BitVec.ofInt n (a : Int) = BitVec.ofNat n a := BitVec.ofInt_natCast n a
theorem u64_nat (a : Nat) : IntKind.u64.wrap (a : Int) = ((a % 18446744073709551616 : Nat) : Int) := by
  rw [IntKind.wrap_u64]; omega
theorem u8_nat (a : Nat) : IntKind.u8.wrap (a : Int) = ((a % 256 : Nat) : Int) := by rw [IntKind.wrap_u8]; omega
theorem iand_u64 {a b : Nat} (ha : a < 18446744073709551616) (hb : b < 18446744073709551616) : iand .u64 (a : Int) (b : Int) = ((a &&& b : Nat) : Int) := by
  unfold iand
  rw [ofInt_nat, ofInt_nat, u64_nat]
  have h : a &&& b < 18446744073709551616 := Nat.lt_of_le_of_lt Nat.and_le_left ha
  simp only [BitVec.toNat_and, BitVec.toNat_ofNat, show IntKind.u64.bits = 64 from rfl]
  rw [Nat.mod_eq_of_lt (show a < 2 ^ 64 by omega), Nat.mod_eq_of_lt (show b < 2 ^ 64 by omega), Nat.mod_eq_of_lt h]
theorem iand_u8 {a b : Nat} (ha : a < 256) (hb : b < 256) : iand .u8 (a : Int) (b : Int) = ((a &&& b : Nat) : Int) := by
  unfold iand
  rw [ofInt_nat, ofInt_nat, u8_nat]
  have h : a &&& b < 256 := Nat.lt_of_le_of_lt Nat.and_le_left ha
  simp only [BitVec.toNat_and, BitVec.toNat_ofNat, show IntKind.u8.bits = 8 from rfl]
  rw [Nat.mod_eq_of_lt (show a < 2 ^ 8 by omega), Nat.mod_eq_of_lt (show b < 2 ^ 8 by omega), Nat.mod_eq_of_lt h]
theorem ior_u64 {a b : Nat} (ha : a < 18446744073709551616) (hb : b < 18446744073709551616) : ior .u64 (a : Int) (b : Int) = ((a ||| b : Nat) : Int) := by
  unfold ior
  rw [ofInt_nat, ofInt_nat, u64_nat]
  have h : a ||| b < 2 ^ 64 := Nat.or_lt_two_pow (show a < 2 ^ 64 by omega) (show b < 2 ^ 64 by omega)
  simp only [BitVec.toNat_or, BitVec.toNat_ofNat, show IntKind.u64.bits = 64 from rfl]
  rw [Nat.mod_eq_of_lt (show a < 2 ^ 64 by omega), Nat.mod_eq_of_lt (show b < 2 ^ 64 by omega), Nat.mod_eq_of_lt (show a ||| b < 18446744073709551616 from h)]
theorem ior_u8 {a b : Nat} (ha : a < 256) (hb : b < 256) : ior .u8 (a : Int) (b : Int) = ((a ||| b : Nat) : Int) := by
  unfold ior
  rw [ofInt_nat, ofInt_nat, u8_nat]
  have h : a ||| b < 2 ^ 8 := Nat.or_lt_two_pow (show a < 2 ^ 8 by omega) (show b < 2 ^ 8 by omega)
  simp only [BitVec.toNat_or, BitVec.toNat_ofNat, show IntKind.u8.bits = 8 from rfl]
  rw [Nat.mod_eq_of_lt (show a < 2 ^ 8 by omega), Nat.mod_eq_of_lt (show b < 2 ^ 8 by omega), Nat.mod_eq_of_lt (show a ||| b < 256 from h)]
theorem ixor_u64 {a b : Nat} (ha : a < 18446744073709551616) (hb : b < 18446744073709551616) : ixor .u64 (a : Int) (b : Int) = ((a ^^^ b : Nat) : Int) := by
  unfold ixor
  rw [ofInt_nat, ofInt_nat, u64_nat]
  have h : a ^^^ b < 2 ^ 64 := Nat.xor_lt_two_pow (show a < 2 ^ 64 by omega) (show b < 2 ^ 64 by omega)
  simp only [BitVec.toNat_xor, BitVec.toNat_ofNat, show IntKind.u64.bits = 64 from rfl]
  rw [Nat.mod_eq_of_lt (show a < 2 ^ 64 by omega), Nat.mod_eq_of_lt (show b < 2 ^ 64 by omega), Nat.mod_eq_of_lt (show a ^^^ b < 18446744073709551616 from h)]
theorem two_pow (n : Nat) : (2 : Int) ^ n = ((2 ^ n : Nat) : Int) := (Int.natCast_pow 2 n).symm
theorem ishr_nat {k : IntKind} (a n : Nat) (h : n ≤ k.bits) : ishr k (a : Int) (n : Int) = ((a / 2 ^ n : Nat) : Int) := by
  unfold ishr
  rw [Int.toNat_natCast, Nat.min_eq_left h, two_pow, Int.fdiv_eq_ediv_of_nonneg _ (Int.natCast_nonneg _)]
  rfl
theorem ishl_u64 (a n : Nat) (h : n ≤ 64) : ishl .u64 (a : Int) (n : Int) = ((a * 2 ^ n % 18446744073709551616 : Nat) : Int) := by
  unfold ishl
  rw [Int.toNat_natCast, show min n IntKind.u64.bits = n from Nat.min_eq_left h, two_pow, ← Int.natCast_mul, u64_nat]
theorem ishl_u8 (a n : Nat) (h : n ≤ 8) : ishl .u8 (a : Int) (n : Int) = ((a * 2 ^ n % 256 : Nat) : Int) := by
  unfold ishl
  rw [Int.toNat_natCast, show min n IntKind.u8.bits = n from Nat.min_eq_left h, two_pow, ← Int.natCast_mul, u8_nat]
theorem or_top {a n : Nat} (h : a < 2 ^ n) (b : Nat) : a ||| (b * 2 ^ n) = a + b * 2 ^ n := by
  rw [Nat.or_comm, Nat.mul_comm, ← Nat.two_pow_add_eq_or_of_lt h, Nat.add_comm]
end Go.Proofs.YteodeedejjcmgaaDoor.P
namespace Go.Proofs.YteodeedejjcmgaaDoor.P
open Go Go.RowKit Go.Proofs.YteodeedejjcmgaaDoor.E Go.Proofs.YteodeedejjcmgaaDoor.M
set_option linter.unusedVariables false
set_option linter.unusedSectionVars false
def uv (n : Nat) : List Int := if h : n < 128 then [(n : Int)] else ((n % 128 + 128 : Nat) : Int) :: uv (n / 128)
termination_by n
decreasing_by omega
theorem uv_small {n : Nat} (h : n < 128) : uv n = [(n : Int)] := by rw [uv, dif_pos h]
theorem uv_large {n : Nat} (h : ¬ n < 128) : uv n = ((n % 128 + 128 : Nat) : Int) :: uv (n / 128) := by rw [uv, dif_neg h]
theorem uv_length : ∀ (k n : Nat), n < 128 ^ (k + 1) → (uv n).length ≤ k + 1
  | 0, n, h => by rw [uv_small (by simpa using h)]; simp
  | k + 1, n, h => by
    by_cases hn : n < 128
    · rw [uv_small hn]; simp
    · rw [uv_large hn, List.length_cons]
      have := uv_length k (n / 128) (by rw [Nat.pow_succ] at h; exact Nat.div_lt_of_lt_mul (by rw [Nat.mul_comm]; exact h))
      omega
theorem uv_length64 {n : Nat} (h : n < 18446744073709551616) : (uv n).length ≤ 10 := uv_length 9 n (by omega)
set_option maxRecDepth 100000 in
theorem or_128 : ∀ m : Fin 256, (m.val ||| 128) = m.val % 128 + 128 := by decide
theorem Uint_app (n : Nat) : ∀ (a0 : List Int), n < 18446744073709551616 → a0.length + (uv n).length ≤ 140737488355328 → column_Uint a0 (n : Int) = some (a0 ++ uv n) := by
  induction n using Nat.strongRecOn with
  | _ n ih =>
    intro a0 h hl
    unfold column_Uint
    by_cases hn : n < 128
    · rw [loop_end (t := (a0, (n : Int))) (by
        show column_Uint_l1 a0 (n : Int) = _
        unfold column_Uint_l1
        rw [if_neg (by simp only [decide_eq_true_eq]; omega)])]
      simp only [Option.bind_some]
      unfold column_Uint_x1_0 column_Uint_b1
      rw [uv_small hn] at hl ⊢
      rw [lt_, u8w (by omega) (by omega), chk_pos (by simpa using hl)]
    · have hl' := hl
      rw [uv_large hn, List.length_cons] at hl'
      have e1 : IntKind.u8.wrap (n : Int) = ((n % 256 : Nat) : Int) := u8_nat n
      have e2 : ior .u8 ((n % 256 : Nat) : Int) 128 = ((n % 128 + 128 : Nat) : Int) := by
        have := ior_u8 (a := n % 256) (b := 128) (by omega) (by omega)
        rw [show ((128 : Nat) : Int) = 128 from rfl] at this
        rw [this, or_128 ⟨n % 256, by omega⟩]
        simp only
        omega
      have e3 : ishr .u64 (n : Int) 7 = ((n / 128 : Nat) : Int) := ishr_nat (k := .u64) n 7 (by decide)
      rw [loop_nxt (s' := (a0 ++ [((n % 128 + 128 : Nat) : Int)], ((n / 128 : Nat) : Int))) (by
        show column_Uint_l1 a0 (n : Int) = _
        unfold column_Uint_l1
        rw [if_pos (by simp only [decide_eq_true_eq]; omega), lt_, e1, lt_, e2, chk_pos (by simp; omega), lt_, e3])]
      have := ih (n / 128) (by omega) (a0 ++ [((n % 128 + 128 : Nat) : Int)]) (by omega) (by simp; omega)
      unfold column_Uint at this
      rw [this, uv_large hn]
      simp
def zz (i : Int) : Nat := if i < 0 then (-(i + 1)).toNat * 2 + 1 else i.toNat * 2
def uz (n : Nat) : Int := if n % 2 = 1 then -((n / 2 : Nat) : Int) - 1 else ((n / 2 : Nat) : Int)
theorem uz_zz (i : Int) : uz (zz i) = i := by unfold uz zz; split <;> split <;> omega
def i64 (i : Int) : Prop := -9223372036854775808 ≤ i ∧ i ≤ 9223372036854775807
theorem zz_lt {i : Int} (h : i64 i) : zz i < 18446744073709551616 := by
  unfold i64 at h
  unfold zz; split <;> omega
theorem i64_wrap (x : Int) : i64 (IntKind.i64.wrap x) := by
  rw [IntWalk.i64_left]; unfold wrap64 i64; omega
theorem xor_ones {a : Nat} (h : a < 18446744073709551616) : ixor .u64 (a : Int) 18446744073709551615 = ((18446744073709551615 - a : Nat) : Int) := by
  show IntKind.u64.wrap (((BitVec.ofInt 64 (a : Int) ^^^ BitVec.allOnes 64).toNat : Nat) : Int) = _
  rw [ofInt_nat, BitVec.xor_allOnes, u64_nat, BitVec.toNat_not, BitVec.toNat_ofNat, Nat.mod_eq_of_lt (show a < 2 ^ 64 by omega)]
  omega
theorem zz_eq {i : Int} (h : i64 i) : ixor .u64 (IntKind.u64.wrap (ishl .i64 i 1)) (IntKind.u64.wrap (ishr .i64 i 63)) = (zz i : Int) := by
  unfold i64 at h
  have e1 : ishl .i64 i 1 = IntKind.i64.wrap (i * 2) := rfl
  have e2 : ishr .i64 i 63 = if i < 0 then -1 else 0 := by
    unfold ishr
    rw [show (63 : Int).toNat = 63 from rfl, show min 63 IntKind.i64.bits = 63 from rfl, Int.fdiv_eq_ediv_of_nonneg _ (by decide)]
    split <;> omega
  rw [e1, e2]
  have e3 : IntKind.u64.wrap (IntKind.i64.wrap (i * 2)) = (i * 2) % 18446744073709551616 := by
    rw [IntKind.wrap_u64, IntWalk.i64_left]; unfold wrap64; omega
  rw [e3]
  unfold zz
  by_cases hi : i < 0
  · rw [if_pos hi, if_pos hi, show IntKind.u64.wrap (-1) = 18446744073709551615 from rfl]
    obtain ⟨m, hm⟩ : ∃ m : Nat, (i * 2) % 18446744073709551616 = (m : Int) := ⟨((i * 2) % 18446744073709551616).toNat, by omega⟩
    rw [hm, xor_ones (by omega)]
    omega
  · rw [if_neg hi, if_neg hi, show IntKind.u64.wrap 0 = ((0 : Nat) : Int) from rfl]
    obtain ⟨m, hm⟩ : ∃ m : Nat, (i * 2) % 18446744073709551616 = (m : Int) := ⟨((i * 2) % 18446744073709551616).toNat, by omega⟩
    rw [hm, ixor_u64 (by omega) (by omega), Nat.xor_zero]
    omega
theorem Int_app {i : Int} (h : i64 i) (a0 : List Int) (hl : a0.length + 10 ≤ 140737488355328) : column_Int a0 i = some (a0 ++ uv (zz i)) := by
  unfold column_Int
  have := uv_length64 (zz_lt h)
  simp only [lt_, zz_eq h, Uint_app _ a0 (zz_lt h) (by omega), Option.bind_some]
theorem Text_app (s : List UInt8) (a0 : List Int) (hs : s.length ≤ 9223372036854775807) (hl : a0.length + s.length + 10 ≤ 140737488355328) : column_Text a0 s = some (a0 ++ uv s.length ++ stb s) := by
  unfold column_Text
  have := uv_length64 (n := s.length) (by omega)
  rw [lt_, u64w (by omega) (by omega), Uint_app _ a0 (by omega) (by omega)]
  simp only [Option.bind_some]
  rw [chk_pos (by simp; omega)]
def Bs (xs : List Int) : Prop := ∀ b ∈ xs, 0 ≤ b ∧ b < 256
theorem Bs.nil : Bs [] := fun _ h => by cases h
theorem Bs.cons {b : Int} {xs : List Int} (h : Bs (b :: xs)) : (0 ≤ b ∧ b < 256) ∧ Bs xs := ⟨h b List.mem_cons_self, fun c hc => h c (List.mem_cons_of_mem _ hc)⟩
theorem Bs.mk {b : Int} {xs : List Int} (hb : 0 ≤ b ∧ b < 256) (h : Bs xs) : Bs (b :: xs) := fun c hc => by
  rcases List.mem_cons.1 hc with rfl | hc
  · exact hb
  · exact h c hc
theorem Bs.app {xs ys : List Int} (h : Bs xs) (h' : Bs ys) : Bs (xs ++ ys) := fun c hc => (List.mem_append.1 hc).elim (h c) (h' c)
theorem Bs.l {xs ys : List Int} (h : Bs (xs ++ ys)) : Bs xs := fun c hc => h c (List.mem_append.2 (.inl hc))
theorem Bs.r {xs ys : List Int} (h : Bs (xs ++ ys)) : Bs ys := fun c hc => h c (List.mem_append.2 (.inr hc))
theorem Bs.drop {xs : List Int} (h : Bs xs) (n : Nat) : Bs (xs.drop n) := fun c hc => h c (List.mem_of_mem_drop hc)
theorem Bs.take {xs : List Int} (h : Bs xs) (n : Nat) : Bs (xs.take n) := fun c hc => h c (List.mem_of_mem_take hc)
theorem Bs.uv (n : Nat) : Bs (uv n) := by
  induction n using Nat.strongRecOn with
  | _ n ih =>
    by_cases hn : n < 128
    · rw [uv_small hn]; exact Bs.mk (by omega) Bs.nil
    · rw [uv_large hn]; exact Bs.mk (by omega) (ih _ (by omega))
theorem Bs.stb (s : List UInt8) : Bs (stb s) := by
  intro c hc
  unfold E.stb at hc
  obtain ⟨b, _, rfl⟩ := List.mem_map.1 hc
  have := b.toNat_lt
  omega
end Go.Proofs.YteodeedejjcmgaaDoor.P
namespace Go.Proofs.YteodeedejjcmgaaDoor.P
open Go Go.RowKit Go.Proofs.YteodeedejjcmgaaDoor.E Go.Proofs.YteodeedejjcmgaaDoor.M
set_option linter.unusedVariables false
set_option linter.unusedSectionVars false
def pB : List Int → Option (Int × List Int)
  | [] => none
  | b :: r => some (b, r)
def pV (i n : Nat) : List Int → Option (Nat × List Int)
  | [] => none
  | b :: r => if i < 9 ∨ (i = 9 ∧ b < 2) then
      (if b < 128 then (if i = 0 ∨ 0 < b then some (n + b.toNat % 128 * 2 ^ (7 * i), r) else none) else pV (i + 1) (n + b.toNat % 128 * 2 ^ (7 * i)) r)
    else none
def pU (most : Int) (xs : List Int) : Option (Int × List Int) := match pV 0 0 xs with
  | some (n, r) => if (n : Int) ≤ most then some ((n : Int), r) else none
  | none => none
def pI (xs : List Int) : Option (Int × List Int) := match pU 18446744073709551615 xs with
  | some (n, r) => some (uz n.toNat, r)
  | none => none
def pT (most : Int) (xs : List Int) : Option (List UInt8 × List Int) := match pU (IntKind.u64.wrap most) xs with
  | some (n, r) => if n ≤ (r.length : Int) then some (bts (r.take n.toNat), r.drop n.toNat) else none
  | none => none
def IsR {ρ : Type} (o : Option ((ρ × S106) ⊕ S106)) (p : Option (ρ × List Int)) : Prop :=
  match p with
  | some (a, r) => o = some (.inl (a, ⟨r⟩))
  | none => ∃ s, o = some (.inr s)
theorem IsR.cases {ρ : Type} {o : Option ((ρ × S106) ⊕ S106)} {p : Option (ρ × List Int)} (h : IsR o p) : (∃ a r, p = some (a, r) ∧ o = some (.inl (a, ⟨r⟩))) ∨ (p = none ∧ ∃ s, o = some (.inr s)) := by
  unfold IsR at h
  split at h
  · exact .inl ⟨_, _, rfl, h⟩
  · exact .inr ⟨rfl, h⟩
theorem s_inl {α β γ : Type} (a : α) (f : α → Option γ) (g : β → Option γ) : sum_ (.inl a) f g = f a := rfl
theorem Check_t (s : S106) : column_Reader_Check s true = some (.inl s) := rfl
theorem Check_f (s : S106) : column_Reader_Check s false = some (.inr s) := rfl
theorem Byte_is (xs : List Int) : IsR (column_Reader_Byte ⟨xs⟩) (pB xs) := by
  unfold column_Reader_Byte
  cases xs with
  | nil => exact ⟨_, rfl⟩
  | cons b r =>
    rw [show decide (0 < (((⟨b :: r⟩ : S106).f0.length : Nat) : Int)) = true by simp, Check_t]
    simp only [Option.bind_some, s_inl]
    have h1 : at_ (b :: r) 0 = some b := rfl
    have h2 : cut_ (b :: r) 1 ((b :: r).length : Int) = some r := by
      have := cut_nat (xs := b :: r) (l := 1) (u := (b :: r).length) (by simp) (Nat.le_refl _)
      rw [show ((1 : Nat) : Int) = 1 from rfl, List.take_length] at this
      exact this
    rw [h1]
    simp only [Option.bind_some]
    rw [h2]
    rfl
theorem and_127 (a : Nat) : a &&& 127 = a % 128 := Nat.and_two_pow_sub_one_eq_mod a 7
theorem pV_lt : ∀ (xs : List Int) (i n m : Nat) (r : List Int), n < 2 ^ (7 * i) → n < 18446744073709551616 → pV i n xs = some (m, r) → m < 18446744073709551616 ∧ ∃ p, xs = p ++ r ∧ 0 < p.length
  | [], i, n, m, r, _, _, h => by cases h
  | b :: xs, i, n, m, r, h1, h2, h => by
    unfold pV at h
    split at h
    · rename_i hc
      have hlt : n + b.toNat % 128 * 2 ^ (7 * i) < 18446744073709551616 ∧ n + b.toNat % 128 * 2 ^ (7 * i) < 2 ^ (7 * (i + 1)) := by
        have hp : 2 ^ (7 * (i + 1)) = 128 * 2 ^ (7 * i) := by rw [show 7 * (i + 1) = 7 + 7 * i by omega, Nat.pow_add]
        have hm : b.toNat % 128 * 2 ^ (7 * i) ≤ 127 * 2 ^ (7 * i) := Nat.mul_le_mul_right _ (by omega)
        refine ⟨?_, by rw [hp]; omega⟩
        rcases hc with hc | ⟨hc, hb⟩
        · have : 2 ^ (7 * i) ≤ 2 ^ 56 := Nat.pow_le_pow_right (by decide) (by omega)
          omega
        · subst hc
          have : b.toNat % 128 * 2 ^ (7 * 9) ≤ 1 * 2 ^ (7 * 9) := Nat.mul_le_mul_right _ (by omega)
          omega
      split at h
      · split at h
        · cases h
          exact ⟨hlt.1, [b], rfl, by simp⟩
        · cases h
      · obtain ⟨q1, p, rfl, q3⟩ := pV_lt xs (i + 1) _ m r hlt.2 hlt.1 h
        exact ⟨q1, b :: p, rfl, by simp⟩
    · cases h
theorem Uloop (most : Int) : ∀ (xs : List Int) (i n : Nat), Bs xs → i ≤ 10 → n < 2 ^ (7 * i) → n < 18446744073709551616 →
    IsR (loop (fun s : List Int × Int × Int => column_Reader_Uint_l1 most s.1 s.2.1 s.2.2) (xs, (n : Int), (i : Int))) (match pV i n xs with | some (m, r) => if (m : Int) ≤ most then some ((m : Int), r) else none | none => none)
  | [], i, n, hB, hi, h1, h2 => ⟨⟨[]⟩, loop_end rfl⟩
  | b :: xs, i, n, hB, hi, h1, h2 => by
    obtain ⟨hb, hB'⟩ := hB.cons
    generalize hpv : pV i n (b :: xs) = pv
    have hby : column_Reader_Byte ⟨b :: xs⟩ = some (.inl (b, ⟨xs⟩)) := Byte_is (b :: xs)
    obtain ⟨c, rfl⟩ : ∃ c : Nat, b = (c : Int) := ⟨b.toNat, by omega⟩
    have hcase : (c : Int) < 128 ∨ 128 ≤ (c : Int) := by omega
    by_cases hc : i < 9 ∨ (i = 9 ∧ (c : Int) < 2)
    · -- the byte is taken
      have hp : 2 ^ (7 * (i + 1)) = 128 * 2 ^ (7 * i) := by rw [show 7 * (i + 1) = 7 + 7 * i by omega, Nat.pow_add]
      have hm : c % 128 * 2 ^ (7 * i) ≤ 127 * 2 ^ (7 * i) := Nat.mul_le_mul_right _ (by omega)
      have hlt : c % 128 * 2 ^ (7 * i) < 18446744073709551616 ∧ n + c % 128 * 2 ^ (7 * i) < 18446744073709551616 := by
        rcases hc with hc | ⟨hc, hb⟩
        · have : 2 ^ (7 * i) ≤ 2 ^ 56 := Nat.pow_le_pow_right (by decide) (by omega)
          omega
        · subst hc
          have : c % 128 * 2 ^ (7 * 9) ≤ 1 * 2 ^ (7 * 9) := Nat.mul_le_mul_right _ (by omega)
          omega
      have hlt2 : n + c % 128 * 2 ^ (7 * i) < 2 ^ (7 * (i + 1)) := by rw [hp]; omega
      obtain ⟨m, hm'⟩ : ∃ m, m = n + c % 128 * 2 ^ (7 * i) := ⟨_, rfl⟩
      have e1 : iand .u8 (c : Int) 127 = ((c % 128 : Nat) : Int) := by
        have := iand_u8 (a := c) (b := 127) (by omega) (by omega)
        rw [show ((127 : Nat) : Int) = 127 from rfl] at this
        rw [this, and_127]
      have e2 : IntKind.i64.wrap (7 * (i : Int)) = ((7 * i : Nat) : Int) := by rw [w64 (by omega) (by omega)]; omega
      have e3 : ishl .u64 ((c % 128 : Nat) : Int) ((7 * i : Nat) : Int) = ((c % 128 * 2 ^ (7 * i) : Nat) : Int) := by
        rw [ishl_u64 _ _ (by omega), Nat.mod_eq_of_lt hlt.1]
      have e4 : ior .u64 (n : Int) ((c % 128 * 2 ^ (7 * i) : Nat) : Int) = (m : Int) := by rw [ior_u64 h2 hlt.1, or_top h1, hm']
      have hl1 : column_Reader_Uint_l1 most ((c : Int) :: xs) (n : Int) (i : Int) = column_Reader_Uint_j1 most (n : Int) (i : Int) ((c : Int), ⟨xs⟩) xs := by
        unfold column_Reader_Uint_l1
        rw [hby]
        simp only [Option.bind_some, s_inl]
        rcases hc with hc | ⟨hc, hc2⟩
        · rw [if_pos (by simp only [decide_eq_true_eq]; omega), Check_t]; rfl
        · rw [if_neg (by simp only [decide_eq_true_eq]; omega), if_pos (by subst hc; rfl), show decide ((c : Int) < 2) = true by simpa using hc2, Check_t]; rfl
      have hj : column_Reader_Uint_j1 most (n : Int) (i : Int) ((c : Int), ⟨xs⟩) xs = if (c : Int) < 128 then (if (m : Int) ≤ most ∧ (i = 0 ∨ 0 < (c : Int)) then some (.inr (.inl ((m : Int), ⟨xs⟩))) else some (.inr (.inr ⟨xs⟩))) else some (.inl (xs, (m : Int), ((i + 1 : Nat) : Int))) := by
        unfold column_Reader_Uint_j1
        simp only [lt_]
        rw [e1, u64w (by omega) (by omega), e2, chk_pos (by omega), e3, e4]
        by_cases hc1 : (c : Int) < 128
        · rw [if_pos (by simpa using hc1), if_pos hc1]
          by_cases hmo : (m : Int) ≤ most
          · rw [if_pos (by simpa using hmo)]
            by_cases hi0 : i = 0
            · subst hi0
              rw [if_pos (by rfl), Check_t, if_pos ⟨hmo, .inl rfl⟩]
              rfl
            · rw [if_neg (by simpa using hi0)]
              by_cases hc0 : 0 < (c : Int)
              · rw [show decide (0 < (c : Int)) = true by simpa using hc0, Check_t, if_pos ⟨hmo, .inr hc0⟩]; rfl
              · rw [show decide (0 < (c : Int)) = false by simpa using hc0, Check_f, if_neg (by rintro ⟨_, q | q⟩; exact hi0 q; exact hc0 q)]; rfl
          · rw [if_neg (by simpa using hmo), Check_f, if_neg (fun q => hmo q.1)]; rfl
        · rw [if_neg (by simpa using hc1), if_neg hc1, w64 (by omega) (by omega)]; rfl
      rw [pV, if_pos hc, Int.toNat_natCast, ← hm'] at hpv
      rcases hcase with hc1 | hc1
      · rw [if_pos hc1] at hj hpv
        by_cases h0 : i = 0 ∨ 0 < (c : Int)
        · rw [if_pos h0] at hpv
          subst hpv
          simp only
          by_cases hmo : (m : Int) ≤ most
          · rw [if_pos ⟨hmo, h0⟩] at hj
            rw [if_pos hmo]
            exact loop_end (hl1.trans hj)
          · rw [if_neg (fun q => hmo q.1)] at hj
            rw [if_neg hmo]
            exact ⟨_, loop_end (hl1.trans hj)⟩
        · rw [if_neg h0] at hpv
          subst hpv
          rw [if_neg (fun q => h0 q.2)] at hj
          exact ⟨_, loop_end (hl1.trans hj)⟩
      · rw [if_neg (Int.not_lt.2 hc1)] at hj hpv
        rw [loop_nxt (hl1.trans hj)]
        subst hpv
        exact Uloop most xs (i + 1) m hB' (by omega) (by rw [hm']; exact hlt2) (by rw [hm']; exact hlt.2)
    · rw [pV, if_neg hc] at hpv
      subst hpv
      refine ⟨_, loop_end (t := Sum.inr ⟨xs⟩) ?_⟩
      show column_Reader_Uint_l1 most ((c : Int) :: xs) (n : Int) (i : Int) = _
      unfold column_Reader_Uint_l1
      rw [hby]
      simp only [Option.bind_some, s_inl]
      rw [if_neg (by simp only [decide_eq_true_eq]; omega)]
      by_cases hi9 : i = 9
      · rw [if_pos (by subst hi9; rfl), show decide ((c : Int) < 2) = false by simp; omega, Check_f]; rfl
      · rw [if_neg (by simp; omega), Check_f]; rfl
theorem Uint_is (most : Int) {xs : List Int} (hB : Bs xs) : IsR (column_Reader_Uint ⟨xs⟩ most) (pU most xs) := by
  unfold column_Reader_Uint pU
  have := Uloop most xs 0 0 hB (by omega) (by simp) (by omega)
  simp only [Int.natCast_zero] at this
  rcases this.cases with ⟨a, r, h1, h2⟩ | ⟨h1, s, h2⟩
  · rw [h1]; show _ = _; rw [h2]; rfl
  · rw [h1]; exact ⟨s, by rw [h2]; rfl⟩
theorem pU_some {most : Int} {xs r : List Int} {n : Int} (h : pU most xs = some (n, r)) : (0 ≤ n ∧ n < 18446744073709551616 ∧ n ≤ most) ∧ ∃ p, xs = p ++ r ∧ 0 < p.length := by
  unfold pU at h
  split at h
  · rename_i m r' he
    split at h
    · cases h
      obtain ⟨h1, h2⟩ := pV_lt _ _ _ _ _ (by simp) (by omega) he
      exact ⟨⟨by omega, by omega, by assumption⟩, h2⟩
    · cases h
  · cases h
theorem and_1 (a : Nat) : a &&& 1 = a % 2 := Nat.and_two_pow_sub_one_eq_mod a 1
theorem xor_m1 {a : Nat} (h : a < 9223372036854775808) : ixor .i64 (a : Int) (-1) = -(a : Int) - 1 := by
  show IntKind.i64.wrap (((BitVec.ofInt 64 (a : Int) ^^^ BitVec.allOnes 64).toNat : Nat) : Int) = _
  rw [ofInt_nat, BitVec.xor_allOnes, BitVec.toNat_not, BitVec.toNat_ofNat, Nat.mod_eq_of_lt (show a < 2 ^ 64 by omega), IntWalk.i64_left]
  unfold wrap64
  omega
theorem xor_0 {a : Nat} (h : a < 9223372036854775808) : ixor .i64 (a : Int) 0 = (a : Int) := by
  show IntKind.i64.wrap (((BitVec.ofInt 64 (a : Int) ^^^ 0#64).toNat : Nat) : Int) = _
  rw [ofInt_nat, BitVec.xor_zero, BitVec.toNat_ofNat, Nat.mod_eq_of_lt (show a < 2 ^ 64 by omega), w64 (by omega) (by omega)]
theorem uz_eq {n : Nat} (h : n < 18446744073709551616) : ixor .i64 (IntKind.i64.wrap (ishr .u64 (n : Int) 1)) (IntKind.i64.wrap (0 - IntKind.i64.wrap (iand .u64 (n : Int) 1))) = uz n := by
  have e1 : ishr .u64 (n : Int) 1 = ((n / 2 : Nat) : Int) := ishr_nat (k := .u64) n 1 (by decide)
  have e2 : iand .u64 (n : Int) 1 = ((n % 2 : Nat) : Int) := by
    have := iand_u64 (a := n) (b := 1) h (by omega)
    rw [show ((1 : Nat) : Int) = 1 from rfl] at this
    rw [this, and_1]
  rw [e1, e2, w64 (n := ((n / 2 : Nat) : Int)) (by omega) (by omega), w64 (n := ((n % 2 : Nat) : Int)) (by omega) (by omega), w64 (by omega) (by omega)]
  unfold uz
  by_cases ho : n % 2 = 1
  · rw [if_pos ho, ho, show (0 : Int) - ((1 : Nat) : Int) = -1 from rfl, xor_m1 (by omega)]
  · rw [if_neg ho, show n % 2 = 0 by omega, show (0 : Int) - ((0 : Nat) : Int) = 0 from rfl, xor_0 (by omega)]
theorem Int_is {xs : List Int} (hB : Bs xs) : IsR (column_Reader_Int ⟨xs⟩) (pI xs) := by
  unfold column_Reader_Int pI
  rcases (Uint_is 18446744073709551615 hB).cases with ⟨a, r, h1, h2⟩ | ⟨h1, s, h2⟩
  · rw [h1, h2]
    obtain ⟨⟨q1, q2, _⟩, _⟩ := pU_some h1
    simp only [Option.bind_some, s_inl, lt_]
    have := uz_eq (n := a.toNat) (by omega)
    rw [show ((a.toNat : Nat) : Int) = a by omega] at this
    show _ = _
    rw [this]
  · rw [h1, h2]
    exact ⟨s, rfl⟩
theorem Text_is (most : Int) {xs : List Int} (hB : Bs xs) (hl : xs.length < 9223372036854775808) : IsR (column_Reader_Text ⟨xs⟩ most) (pT most xs) := by
  unfold column_Reader_Text pT
  rw [lt_]
  rcases (Uint_is (IntKind.u64.wrap most) hB).cases with ⟨a, r, h1, h2⟩ | ⟨h1, s, h2⟩
  · rw [h1, h2]
    obtain ⟨⟨q1, q2, _⟩, p, hp, _⟩ := pU_some h1
    have hr : r.length ≤ xs.length := by rw [hp]; simp
    simp only [Option.bind_some, s_inl, lt_]
    rw [u64w (by omega) (by omega)]
    obtain ⟨n, rfl⟩ : ∃ n : Nat, a = (n : Int) := ⟨a.toNat, by omega⟩
    by_cases hn : (n : Int) ≤ (r.length : Int)
    · rw [show decide ((n : Int) ≤ (r.length : Int)) = true by simpa using hn, Check_t, if_pos hn]
      simp only [Option.bind_some, s_inl]
      have c1 := cut_nat (xs := r) (l := 0) (u := n) (by omega) (by omega)
      have c2 := cut_nat (xs := r) (l := n) (u := r.length) (by omega) (by omega)
      rw [show ((0 : Nat) : Int) = 0 from rfl, List.drop_zero] at c1
      rw [List.take_length] at c2
      rw [c1]
      simp only [Option.bind_some]
      rw [c2]
      rfl
    · rw [show decide ((n : Int) ≤ (r.length : Int)) = false by simpa using hn, Check_f, if_neg hn]
      exact ⟨_, rfl⟩
  · rw [h1, h2]
    exact ⟨s, rfl⟩
theorem pV_uv : ∀ (k : Nat) (m i n : Nat) (r : List Int), m < 128 ^ (k + 1) → k + i ≤ 9 → m * 2 ^ (7 * i) + n < 18446744073709551616 → (0 < i → 0 < m) → pV i n (uv m ++ r) = some (n + m * 2 ^ (7 * i), r)
  | k, m, i, n, r, h, hi, hlt, h0 => by
    by_cases hm : m < 128
    · rw [uv_small hm, List.singleton_append, pV]
      have h9 : i < 9 ∨ (i = 9 ∧ (m : Int) < 2) := by
        rcases Nat.lt_or_ge i 9 with q | q
        · exact .inl q
        · have : i = 9 := by omega
          subst this
          refine .inr ⟨rfl, ?_⟩
          rcases Nat.lt_or_ge m 2 with q2 | q2
          · omega
          · have : 2 * 2 ^ (7 * 9) ≤ m * 2 ^ (7 * 9) := Nat.mul_le_mul_right _ q2
            omega
      rw [if_pos h9, if_pos (by omega), if_pos (by rcases Nat.eq_zero_or_pos i with q | q; exact .inl q; have := h0 q; exact .inr (by omega)), Int.toNat_natCast, Nat.mod_eq_of_lt hm]
    · rw [uv_large hm, List.cons_append, pV]
      match k, h, hi with
      | 0, h, _ => exact absurd (by simpa using h) hm
      | k + 1, h, hi =>
        rw [if_pos (.inl (by omega)), if_neg (by omega), Int.toNat_natCast, show (m % 128 + 128) % 128 = m % 128 by omega]
        have hp : 2 ^ (7 * (i + 1)) = 128 * 2 ^ (7 * i) := by rw [show 7 * (i + 1) = 7 + 7 * i by omega, Nat.pow_add]
        have hdiv : m / 128 * (128 * 2 ^ (7 * i)) + m % 128 * 2 ^ (7 * i) = m * 2 ^ (7 * i) := by
          rw [← Nat.mul_assoc, ← Nat.add_mul]
          congr 1
          omega
        rw [pV_uv k (m / 128) (i + 1) _ r (by rw [Nat.pow_succ] at h; exact Nat.div_lt_of_lt_mul (by rw [Nat.mul_comm]; exact h)) (by omega) (by rw [hp]; omega) (fun _ => by omega), hp]
        congr 2
        omega
theorem pU_uv {m : Nat} (h : m < 18446744073709551616) (r : List Int) {most : Int} (hm : (m : Int) ≤ most) : pU most (uv m ++ r) = some ((m : Int), r) := by
  unfold pU
  rw [pV_uv 9 m 0 0 r (by omega) (by omega) (by simp; omega) (fun q => absurd q (by omega))]
  simp only [Nat.mul_zero, Nat.pow_zero, Nat.mul_one, Nat.zero_add]
  rw [if_pos hm]
theorem pI_uv {x : Int} (h : i64 x) (r : List Int) : pI (uv (zz x) ++ r) = some (x, r) := by
  unfold pI
  have := zz_lt h
  rw [pU_uv this r (by omega)]
  simp only [Int.toNat_natCast, uz_zz]
end Go.Proofs.YteodeedejjcmgaaDoor.P
namespace Go.Proofs.YteodeedejjcmgaaDoor.P
open Go Go.RowKit Go.Proofs.YteodeedejjcmgaaDoor.E Go.Proofs.YteodeedejjcmgaaDoor.M
set_option linter.unusedVariables false
set_option linter.unusedSectionVars false
def bl (n : Nat) : Nat := if h : n = 0 then 0 else bl (n / 2) + 1
termination_by n
decreasing_by omega
theorem bl_zero : bl 0 = 0 := by rw [bl, dif_pos rfl]
theorem bl_pos {n : Nat} (h : 0 < n) : bl n = bl (n / 2) + 1 := by rw [bl, dif_neg (by omega)]
theorem bl_lt (n : Nat) : n < 2 ^ bl n := by
  induction n using Nat.strongRecOn with
  | _ n ih =>
    rcases Nat.eq_zero_or_pos n with rfl | h
    · rw [bl_zero]; decide
    · rw [bl_pos h, Nat.pow_succ]
      have := ih (n / 2) (by omega)
      omega
theorem bl_le : ∀ (k n : Nat), n < 2 ^ k → bl n ≤ k
  | 0, n, h => by have : n = 0 := by simpa using h
                  rw [this, bl_zero]; exact Nat.le_refl _
  | k + 1, n, h => by
    rcases Nat.eq_zero_or_pos n with rfl | hp
    · rw [bl_zero]; omega
    · rw [bl_pos hp]
      have := bl_le k (n / 2) (by rw [Nat.pow_succ] at h; omega)
      omega
theorem bl_shift : ∀ (k n : Nat), 2 ^ k ≤ n → bl n = k + bl (n / 2 ^ k)
  | 0, n, _ => by simp
  | k + 1, n, h => by
    have hp : 0 < 2 ^ k := Nat.two_pow_pos k
    rw [Nat.pow_succ] at h
    rw [bl_pos (by omega), bl_shift k (n / 2) (by omega), Nat.div_div_eq_div_mul, Nat.pow_succ, Nat.mul_comm (2 ^ k) 2]
    omega
def V (w : Nat) : List Nat → Nat
  | [] => 0
  | d :: ds => d + 2 ^ w * V w ds
def Lt (w : Nat) (ds : List Nat) : Prop := ∀ d ∈ ds, d < 2 ^ w
theorem Lt.tail {w d : Nat} {ds : List Nat} (h : Lt w (d :: ds)) : d < 2 ^ w ∧ Lt w ds := ⟨h d List.mem_cons_self, fun x hx => h x (List.mem_cons_of_mem _ hx)⟩
theorem V_lt {w : Nat} : ∀ {ds : List Nat}, Lt w ds → V w ds < 2 ^ (ds.length * w)
  | [], _ => by simp [V]
  | d :: ds, h => by
    have h1 := h.tail.1
    have h2 := V_lt h.tail.2
    simp only [V, List.length_cons]
    rw [Nat.add_mul, Nat.one_mul, Nat.pow_add, Nat.mul_comm (2 ^ (ds.length * w))]
    have : 2 ^ w * V w ds + 2 ^ w ≤ 2 ^ w * 2 ^ (ds.length * w) := by
      rw [← Nat.mul_succ]; exact Nat.mul_le_mul_left _ h2
    omega
theorem V_drop {w : Nat} : ∀ {ds : List Nat}, Lt w ds → ∀ i, V w ds / 2 ^ (i * w) = V w (ds.drop i)
  | ds, _, 0 => by simp
  | [], _, i + 1 => by simp [V]
  | d :: ds, h, i + 1 => by
    rw [List.drop_succ_cons, ← V_drop h.tail.2 i, Nat.add_mul, Nat.one_mul, Nat.add_comm (i * w), Nat.pow_add, ← Nat.div_div_eq_div_mul]
    congr 1
    simp only [V]
    rw [Nat.add_mul_div_left _ _ (Nat.two_pow_pos w), Nat.div_eq_of_lt h.tail.1, Nat.zero_add]
theorem V_get {w : Nat} {ds : List Nat} (h : Lt w ds) {i d : Nat} (hd : ds[i]? = some d) : V w ds / 2 ^ (i * w) % 2 ^ w = d := by
  rw [V_drop h, List.drop_eq_getElem_cons (List.getElem?_eq_some_iff.1 hd).1, (List.getElem?_eq_some_iff.1 hd).2, V, Nat.add_mul_mod_self_left]
  exact Nat.mod_eq_of_lt (h d (List.mem_of_getElem? hd))
def by_ (m v : Nat) : List Nat := (List.range m).map fun j => v / 2 ^ (8 * j) % 256
theorem by_length (m v : Nat) : (by_ m v).length = m := by simp [by_]
theorem by_get {m v j : Nat} (h : j < m) : (by_ m v)[j]? = some (v / 2 ^ (8 * j) % 256) := by
  unfold by_
  rw [List.getElem?_map, List.getElem?_range h]; rfl
theorem by_lt (m v : Nat) : Lt 8 (by_ m v) := by
  intro d hd
  unfold by_ at hd
  obtain ⟨j, _, rfl⟩ := List.mem_map.1 hd
  exact Nat.mod_lt _ (by decide)
theorem by_ext {xs ys : List Nat} (hl : xs.length = ys.length) (h : ∀ j : Nat, j < xs.length → xs[j]? = ys[j]?) : xs = ys := by
  apply List.ext_getElem? fun j => ?_
  rcases Nat.lt_or_ge j xs.length with hj | hj
  · exact h j hj
  · rw [List.getElem?_eq_none hj, List.getElem?_eq_none (by omega)]
def bt (v i : Nat) : Nat := v / 2 ^ i % 2
theorem bt_lt (v i : Nat) : bt v i < 2 := Nat.mod_lt _ (by decide)
theorem mod_succ (v i : Nat) : v % 2 ^ (i + 1) = v % 2 ^ i + bt v i * 2 ^ i := by
  rw [Nat.pow_succ, Nat.mod_mul, bt, Nat.mul_comm]
theorem bt_V {w : Nat} {ds : List Nat} (h : Lt w ds) {i k d : Nat} (hd : ds[i]? = some d) (hk : k < w) : bt (V w ds) (i * w + k) = bt d k := by
  unfold bt
  have hm := V_get h hd
  rw [Nat.pow_add, ← Nat.div_div_eq_div_mul]
  conv => rhs; rw [← hm]
  obtain ⟨x, hx⟩ : ∃ x, x = V w ds / 2 ^ (i * w) := ⟨_, rfl⟩
  rw [← hx]
  obtain ⟨j, rfl⟩ : ∃ j, w = k + (j + 1) := ⟨w - k - 1, by omega⟩
  rw [Nat.pow_add, Nat.mod_mul_right_div_self, Nat.pow_succ, Nat.mul_comm (2 ^ j) 2, Nat.mod_mul_right_mod]
theorem part_same (v i q w : Nat) (hw : 0 < w) (hq : q ≠ i / w) : v % 2 ^ (i + 1) / 2 ^ (q * w) % 2 ^ w = v % 2 ^ i / 2 ^ (q * w) % 2 ^ w := by
  rw [mod_succ]
  rcases Nat.lt_or_ge (i / w) q with hlt | hge
  · -- above
    have h1 : (i / w + 1) * w ≤ q * w := Nat.mul_le_mul_right _ hlt
    have h2 : i < (i / w + 1) * w := by have h := Nat.div_add_mod i w; have h' := Nat.mod_lt i hw; rw [Nat.add_mul, Nat.one_mul, Nat.mul_comm (i / w)]; omega
    have h3 : 2 ^ (i + 1) ≤ 2 ^ (q * w) := Nat.pow_le_pow_right (by decide) (by omega)
    have h4 : v % 2 ^ i < 2 ^ i := Nat.mod_lt _ (Nat.two_pow_pos i)
    have h5 := bt_lt v i
    have h6 : bt v i * 2 ^ i ≤ 1 * 2 ^ i := Nat.mul_le_mul_right _ (by omega)
    rw [Nat.pow_succ] at h3
    rw [Nat.div_eq_of_lt (by omega), Nat.div_eq_of_lt (by omega)]
  · -- below
    have hlt : q < i / w := by omega
    have h1 : (q + 1) * w ≤ i / w * w := Nat.mul_le_mul_right _ hlt
    have h2 : i / w * w ≤ i := Nat.div_mul_le_self i w
    obtain ⟨j, rfl⟩ : ∃ j, i = q * w + w + j := ⟨i - (q * w + w), by rw [Nat.add_mul] at h1; omega⟩
    have e : bt v (q * w + w + j) * 2 ^ (q * w + w + j) = 2 ^ (q * w) * (2 ^ w * (2 ^ j * bt v (q * w + w + j))) := by
      rw [Nat.pow_add, Nat.pow_add]; ac_rfl
    rw [e, Nat.add_mul_div_left _ _ (Nat.two_pow_pos _), Nat.add_mul_mod_self_left]
theorem part_new (v i w : Nat) (hw : 0 < w) : v % 2 ^ (i + 1) / 2 ^ (i / w * w) % 2 ^ w = v % 2 ^ i / 2 ^ (i / w * w) % 2 ^ w + bt v i * 2 ^ (i % w) ∧ v % 2 ^ i / 2 ^ (i / w * w) % 2 ^ w < 2 ^ (i % w) := by
  obtain ⟨q, hq⟩ : ∃ q, q = i / w * w := ⟨_, rfl⟩
  obtain ⟨k, hk⟩ : ∃ k, k = i % w := ⟨_, rfl⟩
  have hi : i = q + k := by rw [hq, hk, Nat.mul_comm]; exact (Nat.div_add_mod i w).symm
  have hkw : k < w := by rw [hk]; exact Nat.mod_lt _ hw
  rw [← hq, ← hk, mod_succ, hi]
  have hlt : v % 2 ^ (q + k) / 2 ^ q < 2 ^ k := Nat.div_lt_of_lt_mul (by rw [← Nat.pow_add]; exact Nat.mod_lt _ (Nat.two_pow_pos _))
  have hkk : 2 ^ (k + 1) ≤ 2 ^ w := Nat.pow_le_pow_right (by decide) hkw
  rw [Nat.pow_succ] at hkk
  have hb := bt_lt v (q + k)
  have hb2 : bt v (q + k) * 2 ^ k ≤ 1 * 2 ^ k := Nat.mul_le_mul_right _ (by omega)
  have e : bt v (q + k) * 2 ^ (q + k) = 2 ^ q * (bt v (q + k) * 2 ^ k) := by rw [Nat.pow_add, ← Nat.mul_assoc, ← Nat.mul_assoc, Nat.mul_comm (bt v (q + k))]
  rw [e, Nat.add_mul_div_left _ _ (Nat.two_pow_pos q), Nat.mod_eq_of_lt (show v % 2 ^ (q + k) / 2 ^ q + bt v (q + k) * 2 ^ k < 2 ^ w by omega), Nat.mod_eq_of_lt (show v % 2 ^ (q + k) / 2 ^ q < 2 ^ w by omega)]
  exact ⟨rfl, hlt⟩
end Go.Proofs.YteodeedejjcmgaaDoor.P
namespace Go.Proofs.YteodeedejjcmgaaDoor.P
open Go Go.RowKit Go.Proofs.YteodeedejjcmgaaDoor.E Go.Proofs.YteodeedejjcmgaaDoor.M
set_option linter.unusedVariables false
set_option linter.unusedSectionVars false
def b0 (l : List Int) : List Int := (l.map fun x => uv (zz x)).flatten
def lastOf : Int → List Int → Int
  | a, [] => a
  | _, x :: l => lastOf x l
def bD : Int → List Int → List Int
  | _, [] => []
  | a, x :: l => uv (zz (IntKind.i64.wrap (x - a))) ++ bD x l
def bR : Nat → List Int → List Int
  | _, [] => []
  | k, [x] => uv (zz x) ++ uv k
  | k, x :: y :: l => if y = x then bR (k + 1) (y :: l) else uv (zz x) ++ uv k ++ bR 0 (y :: l)
def mn : Int → List Int → Int
  | m, [] => m
  | m, x :: l => mn (if x < m then x else m) l
def ds (lo : Int) (l : List Int) : List Nat := l.map fun x => (x - lo).toNat
def wdt (D : List Nat) : Nat := D.foldl (fun w d => if w < bl d then bl d else w) 0
def ofN (l : List Nat) : List Int := l.map fun (n : Nat) => (n : Int)
def pk : List Int → List Int
  | [] => []
  | x :: l => uv (zz (mn x l)) ++ [(wdt (ds (mn x l) (x :: l)) : Int)] ++ ofN (by_ (((x :: l).length * wdt (ds (mn x l) (x :: l)) + 7) / 8) (V (wdt (ds (mn x l) (x :: l))) (ds (mn x l) (x :: l))))
def body : Nat → List Int → List Int
  | 0, l => b0 l
  | 1, l => bD 0 l
  | 2, l => bR 0 l
  | _, l => pk l
def asL (w : Nat) (l : List Int) : List Int := (w : Int) :: (uv l.length ++ body w l)
def I64 (l : List Int) : Prop := ∀ x ∈ l, i64 x
theorem I64.get {l : List Int} (h : I64 l) {i : Nat} {x : Int} (hx : l[i]? = some x) : i64 x := h x (List.mem_of_getElem? hx)
theorem len_b0 : ∀ {l : List Int}, I64 l → (b0 l).length ≤ 10 * l.length
  | [], _ => by simp [b0]
  | x :: l, h => by
    have h1 := uv_length64 (zz_lt (h x List.mem_cons_self))
    have h2 := len_b0 (l := l) fun y hy => h y (List.mem_cons_of_mem _ hy)
    simp only [b0, List.map_cons, List.flatten_cons, List.length_append, List.length_cons] at h2 ⊢
    omega
theorem len_bD : ∀ (l : List Int) (a : Int), (bD a l).length ≤ 10 * l.length
  | [], _ => by simp [bD]
  | x :: l, a => by
    have h1 := uv_length64 (zz_lt (i64_wrap (x - a)))
    have h2 := len_bD l x
    simp only [bD, List.length_append, List.length_cons]
    omega
theorem len_bR : ∀ (l : List Int) (k : Nat), I64 l → k + l.length < 18446744073709551616 → (bR k l).length ≤ 20 * l.length
  | [], _, _, _ => by simp [bR]
  | [x], k, h, hk => by
    have h1 := uv_length64 (zz_lt (h x List.mem_cons_self))
    have h2 := uv_length64 (n := k) (by simp at hk; omega)
    simp only [bR, List.length_append, List.length_cons, List.length_nil]
    omega
  | x :: y :: l, k, h, hk => by
    have h1 := uv_length64 (zz_lt (h x List.mem_cons_self))
    simp only [List.length_cons] at hk
    have h2 := uv_length64 (n := k) (by omega)
    have h' : I64 (y :: l) := fun z hz => h z (List.mem_cons_of_mem _ hz)
    unfold bR
    split
    · have := len_bR (y :: l) (k + 1) h' (by simp only [List.length_cons]; omega)
      simp only [List.length_cons] at this ⊢
      omega
    · have := len_bR (y :: l) 0 h' (by simp only [List.length_cons]; omega)
      simp only [List.length_append, List.length_cons] at this ⊢
      omega
theorem b0_snoc (l : List Int) (x : Int) : b0 (l ++ [x]) = b0 l ++ uv (zz x) := by simp [b0]
theorem bD_snoc : ∀ (l : List Int) (a x : Int), bD a (l ++ [x]) = bD a l ++ uv (zz (IntKind.i64.wrap (x - lastOf a l)))
  | [], a, x => by simp [bD, lastOf]
  | y :: l, a, x => by simp [bD, lastOf, bD_snoc l y x]
theorem lastOf_snoc : ∀ (l : List Int) (a x : Int), lastOf a (l ++ [x]) = x
  | [], a, x => rfl
  | y :: l, a, x => lastOf_snoc l y x
theorem take_snoc {l : List Int} {k : Nat} {x : Int} (h : l[k]? = some x) : l.take (k + 1) = l.take k ++ [x] := by rw [List.take_add_one, h]; rfl
theorem I64.take {l : List Int} (h : I64 l) (k : Nat) : I64 (l.take k) := fun x hx => h x (List.mem_of_mem_take hx)
section
variable {l pre : List Int} (hl : l.length ≤ 4096) (hi : I64 l) (hp : pre.length ≤ 20)
include hl hi hp
theorem col0 : loop (fun s : List Int × Int => column_As_l1 l s.1 s.2) (pre, 0) = some (pre ++ b0 l) := by
  have := loop_to (b := fun s : List Int × Int => column_As_l1 l s.1 s.2) (fun k => (pre ++ b0 (l.take k), (k : Int))) (t := pre ++ b0 l) l.length (fun k hk => by
    have hx := List.getElem?_eq_getElem hk
    have hlen := len_b0 (hi.take k)
    rw [List.length_take] at hlen
    show column_As_l1 l (pre ++ b0 (l.take k)) (k : Int) = _
    unfold column_As_l1
    rw [if_pos (by simp only [decide_eq_true_eq]; omega), at_int rfl hx]
    simp only [Option.bind_some]
    rw [Int_app (hi.get hx) _ (by simp only [List.length_append]; omega)]
    simp only [Option.bind_some, lt_]
    rw [w64 (by omega) (by omega), take_snoc hx, b0_snoc, List.append_assoc]
    rfl) (by
    show column_As_l1 l (pre ++ b0 (l.take l.length)) (l.length : Int) = _
    unfold column_As_l1
    rw [if_neg (by simp), List.take_length])
  simpa [b0] using this
omit hi in
theorem col1 : loop (fun s : List Int × Int × Int => column_As_l2 l s.1 s.2.1 s.2.2) (pre, 0, 0) = some (pre ++ bD 0 l) := by
  have := loop_to (b := fun s : List Int × Int × Int => column_As_l2 l s.1 s.2.1 s.2.2) (fun k => (pre ++ bD 0 (l.take k), lastOf 0 (l.take k), (k : Int))) (t := pre ++ bD 0 l) l.length (fun k hk => by
    have hx := List.getElem?_eq_getElem hk
    have hlen := len_bD (l.take k) 0
    rw [List.length_take] at hlen
    show column_As_l2 l (pre ++ bD 0 (l.take k)) (lastOf 0 (l.take k)) (k : Int) = _
    unfold column_As_l2
    rw [if_pos (by simp only [decide_eq_true_eq]; omega), at_int rfl hx]
    simp only [Option.bind_some, lt_]
    rw [Int_app (i64_wrap _) _ (by simp only [List.length_append]; omega)]
    simp only [Option.bind_some]
    rw [w64 (n := (k : Int) + 1) (by omega) (by omega), take_snoc hx, bD_snoc, lastOf_snoc, List.append_assoc]
    rfl) (by
    show column_As_l2 l (pre ++ bD 0 (l.take l.length)) (lastOf 0 (l.take l.length)) (l.length : Int) = _
    unfold column_As_l2
    rw [if_neg (by simp), List.take_length])
  simpa [bD, lastOf] using this
end
theorem run_split (x : Int) : ∀ rest : List Int, ∃ (m : Nat) (tl : List Int), rest = List.replicate m x ++ tl ∧ ∀ y, tl[0]? = some y → y ≠ x
  | [] => ⟨0, [], rfl, by simp⟩
  | y :: rest => by
    by_cases h : y = x
    · obtain ⟨m, tl, h1, h2⟩ := run_split x rest
      exact ⟨m + 1, tl, by rw [h, h1]; rfl, h2⟩
    · exact ⟨0, y :: rest, rfl, fun z hz => by cases hz; exact h⟩
theorem bR_run (x : Int) (tl : List Int) (h : ∀ y, tl[0]? = some y → y ≠ x) : ∀ (m k : Nat), bR k (x :: (List.replicate m x ++ tl)) = uv (zz x) ++ uv (k + m) ++ bR 0 tl
  | 0, k => by
    cases tl with
    | nil => simp [bR]
    | cons y tl =>
      have := h y rfl
      simp only [List.replicate_zero, List.nil_append, bR, if_neg this, Nat.add_zero]
  | m + 1, k => by
    rw [List.replicate_succ, List.cons_append, bR, if_pos rfl, bR_run x tl h m (k + 1), show k + 1 + m = k + (m + 1) by omega]
section
variable {l pre : List Int} (hl : l.length ≤ 4096) (hi : I64 l) (hp : pre.length ≤ 20)
include hl hi hp
theorem col2 : loop (fun s : List Int × Int => column_As_l3 l s.1 s.2) (pre, 0) = some (pre ++ bR 0 l) := by
  obtain ⟨t, ht, rfl⟩ := loop_good (b := fun s : List Int × Int => column_As_l3 l s.1 s.2) (s := (pre, 0))
    (fun s => ∃ i : Nat, s.2 = i ∧ i ≤ l.length ∧ s.1.length ≤ 20 + 20 * i ∧ s.1 ++ bR 0 (l.drop i) = pre ++ bR 0 l)
    (fun s => ((l.length : Int) - s.2).toNat) (fun t => t = pre ++ bR 0 l) ⟨0, rfl, by omega, by simpa using hp, by simp⟩ (by
      rintro ⟨acc, q⟩ ⟨i, hq, hil, hacc, hinv⟩
      simp only at hq hacc hinv
      subst hq
      show (∃ s', column_As_l3 l acc (i : Int) = some (.inl s') ∧ _) ∨ ∃ t, column_As_l3 l acc (i : Int) = some (.inr t) ∧ _
      unfold column_As_l3
      by_cases hlt : i < l.length
      · rw [if_pos (by simp only [decide_eq_true_eq]; omega)]
        have hx := List.getElem?_eq_getElem hlt
        obtain ⟨x, hxe⟩ : ∃ x, x = l[i] := ⟨_, rfl⟩
        rw [← hxe] at hx
        have hd : l.drop i = x :: l.drop (i + 1) := by rw [List.drop_eq_getElem_cons hlt, ← hxe]
        obtain ⟨m, tl, hm, htl⟩ := run_split x (l.drop (i + 1))
        have hlen : l.length = i + 1 + m + tl.length := by
          have := congrArg List.length hm
          simp only [List.length_drop, List.length_append, List.length_replicate] at this
          omega
        have hget : ∀ k, k < m → l[i + 1 + k]? = some x := by
          intro k hk
          have : (l.drop (i + 1))[k]? = some x := by rw [hm, List.getElem?_append_left (by simpa using hk)]; simp [hk]
          rwa [List.getElem?_drop] at this
        have hdr : l.drop (i + 1 + m) = tl := by
          rw [← List.drop_drop, hm]
          exact List.drop_left' (by simp)
        -- how many are alike
        have hin := loop_to (b := fun s : Int => column_As_l4 l (i : Int) s) (fun k => ((k + 1 : Nat) : Int)) (t := ((m + 1 : Nat) : Int)) m (fun k hk => by
          show column_As_l4 l (i : Int) ((k + 1 : Nat) : Int) = _
          unfold column_As_l4
          rw [lt_, w64 (by omega) (by omega), if_pos (by simp only [decide_eq_true_eq]; omega), at_int (n := i + 1 + k) (by omega) (hget k hk), at_int rfl hx]
          simp only [Option.bind_some]
          unfold column_As_j1
          rw [if_pos (by simp), lt_, w64 (by omega) (by omega)]
          rfl) (by
          show column_As_l4 l (i : Int) ((m + 1 : Nat) : Int) = _
          unfold column_As_l4
          rw [lt_, w64 (by omega) (by omega)]
          by_cases htz : tl.length = 0
          · rw [if_neg (by simp only [decide_eq_true_eq]; omega)]
            unfold column_As_j1
            rw [if_neg (by simp)]
          · obtain ⟨y, hy⟩ : ∃ y, tl[0]? = some y := ⟨_, List.getElem?_eq_getElem (by omega)⟩
            have hy' : l[i + 1 + m]? = some y := by rw [← hdr, List.getElem?_drop] at hy; exact hy
            rw [if_pos (by simp only [decide_eq_true_eq]; omega), at_int (n := i + 1 + m) (by omega) hy', at_int rfl hx]
            simp only [Option.bind_some]
            unfold column_As_j1
            rw [if_neg (by simpa using htl y hy)])
        rw [show (1 : Int) = ((0 + 1 : Nat) : Int) from rfl, hin]
        simp only [Option.bind_some]
        unfold column_As_x4_7 column_As_b5
        have hz := uv_length64 (zz_lt (hi.get hx))
        have hum := uv_length64 (n := m) (by omega)
        rw [at_int rfl hx]
        simp only [Option.bind_some]
        rw [Int_app (hi.get hx) _ (by omega)]
        simp only [Option.bind_some, lt_]
        rw [w64 (n := ((m + 1 : Nat) : Int) - 1) (by omega) (by omega), show ((m + 1 : Nat) : Int) - 1 = (m : Int) by omega, u64w (by omega) (by omega), Uint_app m _ (by omega) (by simp only [List.length_append]; omega)]
        simp only [Option.bind_some]
        rw [w64 (by omega) (by omega)]
        refine .inl ⟨_, rfl, ⟨i + 1 + m, ?_, by omega, ?_, ?_⟩, ?_⟩
        · simp only; omega
        · simp only [List.length_append]; omega
        · rw [hdr, ← hinv, hd, hm, bR_run x tl htl m 0]
          simp
        · simp only; omega
      · rw [if_neg (by simp only [decide_eq_true_eq]; omega)]
        refine .inr ⟨_, rfl, ?_⟩
        rw [← hinv, show i = l.length by omega, List.drop_length]
        simp [bR])
  exact ht
end
end Go.Proofs.YteodeedejjcmgaaDoor.P
namespace Go.Proofs.YteodeedejjcmgaaDoor.P
open Go Go.RowKit Go.Proofs.YteodeedejjcmgaaDoor.E Go.Proofs.YteodeedejjcmgaaDoor.M
set_option linter.unusedVariables false
set_option linter.unusedSectionVars false
theorem bl_eq {k m : Nat} (h1 : 2 ^ k ≤ m) (h2 : m < 2 ^ (k + 1)) : bl m = k + 1 := by
  have e : m / 2 ^ k = 1 := by
    rw [Nat.pow_succ] at h2
    have := (Nat.le_div_iff_mul_le (Nat.two_pow_pos k)).2 (show 1 * 2 ^ k ≤ m by omega)
    have := (Nat.div_lt_iff_lt_mul (Nat.two_pow_pos k)).2 (show m < 2 * 2 ^ k by omega)
    omega
  rw [bl_shift k m h1, e, bl_pos (by decide), show 1 / 2 = 0 from rfl, bl_zero]
def steps (m : Nat) : Nat := if m < 1 then 0 else if m < 2 then 1 else if m < 4 then 2 else if m < 8 then 3 else if m < 16 then 4 else if m < 32 then 5 else if m < 64 then 6 else if m < 128 then 7 else 8
theorem bl_steps {m : Nat} (h : m < 256) : bl m = steps m := by
  unfold steps
  repeat' split
  · rw [show m = 0 by omega, bl_zero]
  · exact bl_eq (k := 0) (by omega) (by omega)
  · exact bl_eq (k := 1) (by omega) (by omega)
  · exact bl_eq (k := 2) (by omega) (by omega)
  · exact bl_eq (k := 3) (by omega) (by omega)
  · exact bl_eq (k := 4) (by omega) (by omega)
  · exact bl_eq (k := 5) (by omega) (by omega)
  · exact bl_eq (k := 6) (by omega) (by omega)
  · exact bl_eq (k := 7) (by omega) (by omega)
set_option maxRecDepth 100000 in
theorem j3_eq {m : Nat} (h : m < 256) (a : Int) (ha : 0 ≤ a) (ha' : a ≤ 64) : bits_Len64_j3 (m : Int) a = some (a + (bl m : Int)) := by
  unfold bits_Len64_j3
  rw [lt_, u8w (by omega) (by omega), at_nat]
  have key : ∀ tb : List UInt8, (∀ i : Fin 256, (tb[i.val]?).map (fun b : UInt8 => b.toNat) = some (steps i.val)) → ((tb[m]?).bind fun x133 => (ltt (IntKind.i64.wrap (x133.toNat : Int)) fun x135 => (ltt (IntKind.i64.wrap (a + x135)) fun x137 => (some x137)))) = some (a + (bl m : Int)) := by
    intro tb ht
    have := ht ⟨m, h⟩
    simp only [Option.map_eq_some_iff] at this
    obtain ⟨b, hb, hs⟩ := this
    rw [hb]
    have : steps m ≤ 8 := by unfold steps; (repeat' split) <;> omega
    simp only [Option.bind_some, lt_]
    rw [hs, w64 (n := ((steps m : Nat) : Int)) (by omega) (by omega), w64 (by omega) (by omega), bl_steps h]
  exact key _ (by decide +kernel)
theorem sh {n k : Nat} (hk : k ≤ 64) : ishr .u64 (n : Int) (k : Int) = ((n / 2 ^ k : Nat) : Int) := ishr_nat (k := .u64) n k hk
theorem Len_eq {n : Nat} (h : n < 18446744073709551616) : bits_Len64 (n : Int) = some (bl n : Int) := by
  have j2 : ∀ (m a : Nat), m < 65536 → a ≤ 56 → bits_Len64_j2 (m : Int) (a : Int) = some ((a : Int) + (bl m : Int)) := by
    intro m a hm ha
    unfold bits_Len64_j2
    by_cases hc : 256 ≤ m
    · rw [if_pos (by simp only [decide_eq_true_eq]; omega), lt_, lt_]
      have e := sh (n := m) (k := 8) (by omega)
      rw [show ((8 : Nat) : Int) = 8 from rfl] at e
      rw [e, w64 (by omega) (by omega), j3_eq (by omega) _ (by omega) (by omega), bl_shift 8 m (by omega)]
      congr 1
      omega
    · rw [if_neg (by simp only [decide_eq_true_eq]; omega), j3_eq (by omega) _ (by omega) (by omega)]
  have j1 : ∀ (m a : Nat), m < 4294967296 → a ≤ 32 → bits_Len64_j1 (m : Int) (a : Int) = some ((a : Int) + (bl m : Int)) := by
    intro m a hm ha
    unfold bits_Len64_j1
    by_cases hc : 65536 ≤ m
    · rw [if_pos (by simp only [decide_eq_true_eq]; omega), lt_, lt_]
      have e := sh (n := m) (k := 16) (by omega)
      rw [show ((16 : Nat) : Int) = 16 from rfl] at e
      rw [e, w64 (by omega) (by omega), show (a : Int) + 16 = ((a + 16 : Nat) : Int) by omega, j2 _ _ (by omega) (by omega), bl_shift 16 m (by omega)]
      congr 1
      omega
    · rw [if_neg (by simp only [decide_eq_true_eq]; omega), j2 _ _ (by omega) (by omega)]
  unfold bits_Len64
  by_cases hc : 4294967296 ≤ n
  · rw [if_pos (by simp only [decide_eq_true_eq]; omega), lt_]
    have e := sh (n := n) (k := 32) (by omega)
    rw [show ((32 : Nat) : Int) = 32 from rfl] at e
    rw [e, show (32 : Int) = ((32 : Nat) : Int) from rfl, j1 _ _ (by omega) (by omega), bl_shift 32 n (by omega)]
    congr 1
  · rw [if_neg (by simp only [decide_eq_true_eq]; omega), show (0 : Int) = ((0 : Nat) : Int) from rfl, j1 _ _ (by omega) (by omega)]
    simp
theorem mn_snoc : ∀ (l : List Int) (m x : Int), mn m (l ++ [x]) = if x < mn m l then x else mn m l
  | [], m, x => rfl
  | y :: l, m, x => mn_snoc l _ x
theorem mn_le : ∀ (l : List Int) (m : Int), mn m l ≤ m ∧ ∀ x ∈ l, mn m l ≤ x
  | [], m => ⟨Int.le_refl _, fun x h => by cases h⟩
  | y :: l, m => by
    obtain ⟨h1, h2⟩ := mn_le l (if y < m then y else m)
    have h3 : (if y < m then y else m) ≤ m ∧ (if y < m then y else m) ≤ y := by split <;> omega
    refine ⟨Int.le_trans h1 h3.1, fun x hx => ?_⟩
    rcases List.mem_cons.1 hx with rfl | hx
    · exact Int.le_trans h1 h3.2
    · exact h2 x hx
theorem mn_mem : ∀ (l : List Int) (m : Int), mn m l = m ∨ mn m l ∈ l
  | [], m => .inl rfl
  | y :: l, m => by
    rcases mn_mem l (if y < m then y else m) with h | h
    · simp only [mn]
      rw [h]
      split
      · exact .inr List.mem_cons_self
      · exact .inl rfl
    · exact .inr (List.mem_cons_of_mem _ h)
theorem mn_i64 {x : Int} {l : List Int} (h : I64 (x :: l)) : i64 (mn x l) := by
  rcases mn_mem l x with e | e
  · rw [e]; exact h x List.mem_cons_self
  · exact h _ (List.mem_cons_of_mem _ e)
theorem d_eq {x lo : Int} (hx : i64 x) (hlo : i64 lo) (h : lo ≤ x) : IntKind.u64.wrap (IntKind.i64.wrap (x - lo)) = (((x - lo).toNat : Nat) : Int) ∧ (x - lo).toNat < 18446744073709551616 := by
  unfold i64 at hx hlo
  refine ⟨?_, by omega⟩
  rw [IntKind.wrap_u64, IntWalk.i64_left]
  unfold wrap64
  omega
theorem wdt_snoc (D : List Nat) (d : Nat) : wdt (D ++ [d]) = if wdt D < bl d then bl d else wdt D := by
  unfold wdt; rw [List.foldl_append]; rfl
theorem wdt_ge : ∀ (k : Nat) (D : List Nat), D.length = k → ∀ d ∈ D, bl d ≤ wdt D
  | 0, D, hk, d, hd => by rw [List.eq_nil_of_length_eq_zero hk] at hd; cases hd
  | k + 1, D, hk, d, hd => by
    obtain ⟨c, x, rfl⟩ : ∃ c x, D = c ++ [x] := ⟨D.dropLast, D.getLast (by intro e; rw [e] at hk; cases hk), (List.dropLast_concat_getLast _).symm⟩
    rw [wdt_snoc]
    rcases List.mem_append.1 hd with h | h
    · have := wdt_ge k c (by simpa using hk) d h
      split <;> omega
    · rw [List.mem_singleton.1 h]
      split <;> omega
theorem wdt_le (b : Nat) : ∀ (k : Nat) (D : List Nat), D.length = k → (∀ d ∈ D, bl d ≤ b) → wdt D ≤ b
  | 0, D, hk, _ => by rw [List.eq_nil_of_length_eq_zero hk]; simp [wdt]
  | k + 1, D, hk, h => by
    obtain ⟨c, x, rfl⟩ : ∃ c x, D = c ++ [x] := ⟨D.dropLast, D.getLast (by intro e; rw [e] at hk; cases hk), (List.dropLast_concat_getLast _).symm⟩
    rw [wdt_snoc]
    have h1 := wdt_le b k c (by simpa using hk) fun d hd => h d (List.mem_append.2 (.inl hd))
    have h2 := h x (List.mem_append.2 (.inr (List.mem_singleton.2 rfl)))
    split <;> omega
theorem Lt_wdt (D : List Nat) : Lt (wdt D) D := fun d hd => Nat.lt_of_lt_of_le (bl_lt d) (Nat.pow_le_pow_right (by decide) (wdt_ge _ D rfl d hd))
theorem ds_get {lo x : Int} {l : List Int} {i : Nat} (h : l[i]? = some x) : (ds lo l)[i]? = some (x - lo).toNat := by simp [ds, h]
theorem ds_length (lo : Int) (l : List Int) : (ds lo l).length = l.length := by simp [ds]
theorem by_step {m v at' : Nat} (h : at' / 8 < m) : (ofN (by_ m (v % 2 ^ at'))).set (at' / 8) ((v % 2 ^ at' / 2 ^ (8 * (at' / 8)) % 256 + bt v at' * 2 ^ (at' % 8) : Nat) : Int) = ofN (by_ m (v % 2 ^ (at' + 1))) := by
  unfold ofN
  rw [← List.map_set]
  congr 1
  refine by_ext (by simp [by_length]) fun j hj => ?_
  rw [List.length_set, by_length] at hj
  rw [by_get hj]
  by_cases e : at' / 8 = j
  · subst e
    have := (part_new v at' 8 (by decide)).1
    rw [Nat.mul_comm (at' / 8) 8, show 2 ^ 8 = 256 from rfl] at this
    rw [List.getElem?_set_self (by rw [by_length]; exact hj), this]
  · have := part_same v at' j 8 (by decide) (Ne.symm e)
    rw [Nat.mul_comm j 8, show 2 ^ 8 = 256 from rfl] at this
    rw [List.getElem?_set_ne e, by_get hj, this]
theorem ofN_get {D : List Nat} {j d : Nat} (h : D[j]? = some d) : (ofN D)[j]? = some (d : Int) := by simp [ofN, h]
theorem ofN_length (D : List Nat) : (ofN D).length = D.length := by simp [ofN]
section
variable {l : List Int} {lo : Int} {w : Nat} (hl : l.length ≤ 4096) (hi : I64 l) (hlo : i64 lo) (hle : ∀ x ∈ l, lo ≤ x) (hw : w ≤ 64) (hL : Lt w (ds lo l))
include hl hi hlo hle hw hL
omit hl in
theorem bit_eq {i : Nat} {x : Int} (hx : l[i]? = some x) {k : Nat} (hk : k < w) :
    ishr .u64 (IntKind.u64.wrap (IntKind.i64.wrap (x - lo))) (k : Int) = (((x - lo).toNat / 2 ^ k : Nat) : Int) ∧ bt (V w (ds lo l)) (i * w + k) = (x - lo).toNat / 2 ^ k % 2 ∧ (x - lo).toNat / 2 ^ k < 18446744073709551616 := by
  obtain ⟨e, e'⟩ := d_eq (hi.get hx) hlo (hle x (List.mem_of_getElem? hx))
  rw [e]
  exact ⟨sh (by omega), bt_V hL (ds_get hx) hk, Nat.lt_of_le_of_lt (Nat.div_le_self _ _) e'⟩
omit hi hlo hle hL in
theorem at_lt {i k : Nat} (hil : i < l.length) (hk : k < w) : i * w + k < l.length * w ∧ l.length * w ≤ 262144 ∧ (i * w + k) / 8 < (l.length * w + 7) / 8 := by
  have h1 : (i + 1) * w ≤ l.length * w := Nat.mul_le_mul_right _ hil
  have h2 : l.length * w ≤ 4096 * 64 := Nat.mul_le_mul hl hw
  rw [Nat.add_mul] at h1
  refine ⟨by omega, by omega, by omega⟩
theorem col_bits {i : Nat} {x : Int} (hx : l[i]? = some x) :
    loop (fun s : Int × List Int × Int => column_pack_l2 lo (w : Int) x s.1 s.2.1 s.2.2) (((i * w : Nat) : Int), ofN (by_ ((l.length * w + 7) / 8) (V w (ds lo l) % 2 ^ (i * w))), 0)
      = some ((((i + 1) * w : Nat) : Int), ofN (by_ ((l.length * w + 7) / 8) (V w (ds lo l) % 2 ^ ((i + 1) * w)))) := by
  have hil := (List.getElem?_eq_some_iff.1 hx).1
  have := loop_to (b := fun s : Int × List Int × Int => column_pack_l2 lo (w : Int) x s.1 s.2.1 s.2.2) (fun k => (((i * w + k : Nat) : Int), ofN (by_ ((l.length * w + 7) / 8) (V w (ds lo l) % 2 ^ (i * w + k))), (k : Int))) (t := ((((i + 1) * w : Nat) : Int), ofN (by_ ((l.length * w + 7) / 8) (V w (ds lo l) % 2 ^ ((i + 1) * w))))) w (fun k hk => by
    obtain ⟨h1, h2, h3⟩ := at_lt hl hw hil hk
    obtain ⟨e1, e2, e3⟩ := bit_eq hi hlo hle hw hL hx hk
    show column_pack_l2 lo (w : Int) x ((i * w + k : Nat) : Int) (ofN (by_ ((l.length * w + 7) / 8) (V w (ds lo l) % 2 ^ (i * w + k)))) (k : Int) = _
    have hstep := by_step (v := V w (ds lo l)) h3
    have hcur : V w (ds lo l) % 2 ^ (i * w + k) / 2 ^ (8 * ((i * w + k) / 8)) % 256 < 2 ^ ((i * w + k) % 8) := by
      have := (part_new (V w (ds lo l)) (i * w + k) 8 (by decide)).2
      rwa [Nat.mul_comm ((i * w + k) / 8) 8] at this
    rw [show i * w + (k + 1) = i * w + k + 1 by omega]
    generalize i * w + k = a at h1 h3 e2 hstep hcur ⊢
    have hget := ofN_get (by_get (v := V w (ds lo l) % 2 ^ a) h3)
    unfold column_pack_l2
    rw [if_pos (by simp only [decide_eq_true_eq]; omega), lt_, show ((a : Nat) : Int).tdiv 8 = ((a / 8 : Nat) : Int) from rfl, w64 (n := ((a / 8 : Nat) : Int)) (by omega) (by omega), at_int rfl hget]
    simp only [Option.bind_some, lt_]
    rw [chk_pos (by omega), e1, show ((a : Nat) : Int).tmod 8 = ((a % 8 : Nat) : Int) from rfl, chk_pos (by omega)]
    have hand : iand .u64 (((x - lo).toNat / 2 ^ k : Nat) : Int) 1 = ((bt (V w (ds lo l)) a : Nat) : Int) := by
      have := iand_u64 (a := (x - lo).toNat / 2 ^ k) (b := 1) e3 (by omega)
      rw [show ((1 : Nat) : Int) = 1 from rfl] at this
      rw [this, and_1, e2]
    have hb := bt_lt (V w (ds lo l)) a
    have hp8 : 2 ^ (a % 8) ≤ 2 ^ 7 := Nat.pow_le_pow_right (by decide) (by omega)
    have hbp : bt (V w (ds lo l)) a * 2 ^ (a % 8) ≤ 1 * 2 ^ (a % 8) := Nat.mul_le_mul_right _ (by omega)
    have hm : bt (V w (ds lo l)) a * 2 ^ (a % 8) % 256 = bt (V w (ds lo l)) a * 2 ^ (a % 8) := Nat.mod_eq_of_lt (by omega)
    rw [hand, u8w (by omega) (by omega), ishl_u8 _ _ (by omega), hm, ior_u8 (by omega) (by omega), or_top hcur, w64 (by omega) (by omega), w64 (by omega) (by omega), Int.toNat_natCast, hstep]
    rfl) (by
    show column_pack_l2 lo (w : Int) x ((i * w + w : Nat) : Int) (ofN (by_ ((l.length * w + 7) / 8) (V w (ds lo l) % 2 ^ (i * w + w)))) (w : Int) = _
    unfold column_pack_l2
    rw [if_neg (by simp), show i * w + w = (i + 1) * w by rw [Nat.add_mul, Nat.one_mul]])
  simpa using this
theorem col_all : loop (fun s : Int × List Int × Int => column_pack_l1 l lo (w : Int) s.1 s.2.1 s.2.2) (0, List.replicate ((l.length * w + 7) / 8) 0, 0) = some (ofN (by_ ((l.length * w + 7) / 8) (V w (ds lo l)))) := by
  have := loop_to (b := fun s : Int × List Int × Int => column_pack_l1 l lo (w : Int) s.1 s.2.1 s.2.2) (fun i => (((i * w : Nat) : Int), ofN (by_ ((l.length * w + 7) / 8) (V w (ds lo l) % 2 ^ (i * w))), (i : Int))) (t := ofN (by_ ((l.length * w + 7) / 8) (V w (ds lo l)))) l.length (fun i hil => by
    have hx := List.getElem?_eq_getElem hil
    show column_pack_l1 l lo (w : Int) ((i * w : Nat) : Int) (ofN (by_ ((l.length * w + 7) / 8) (V w (ds lo l) % 2 ^ (i * w)))) (i : Int) = _
    unfold column_pack_l1
    rw [if_pos (by simp only [decide_eq_true_eq]; omega), at_int rfl hx]
    simp only [Option.bind_some]
    rw [col_bits hl hi hlo hle hw hL hx]
    simp only [Option.bind_some]
    unfold column_pack_x2_4 column_pack_b3
    rw [lt_, w64 (by omega) (by omega)]
    rfl) (by
    show column_pack_l1 l lo (w : Int) ((l.length * w : Nat) : Int) (ofN (by_ ((l.length * w + 7) / 8) (V w (ds lo l) % 2 ^ (l.length * w)))) (l.length : Int) = _
    unfold column_pack_l1
    have hv := V_lt hL
    rw [ds_length] at hv
    rw [if_neg (by simp), Nat.mod_eq_of_lt hv])
  have e0 : ofN (by_ ((l.length * w + 7) / 8) (V w (ds lo l) % 2 ^ (0 * w))) = List.replicate ((l.length * w + 7) / 8) 0 := by
    rw [Nat.zero_mul, Nat.pow_zero, Nat.mod_one]
    unfold ofN by_
    rw [List.map_map, List.eq_replicate_iff]
    refine ⟨by simp, fun b hb => ?_⟩
    obtain ⟨j, _, rfl⟩ := List.mem_map.1 hb
    simp
  rw [e0] at this
  simpa using this
end
end Go.Proofs.YteodeedejjcmgaaDoor.P
namespace Go.Proofs.YteodeedejjcmgaaDoor.P
open Go Go.RowKit Go.Proofs.YteodeedejjcmgaaDoor.E Go.Proofs.YteodeedejjcmgaaDoor.M
set_option linter.unusedVariables false
set_option linter.unusedSectionVars false
section
variable {l : List Int} {lo : Int} {w : Nat} (hl : l.length ≤ 4096) (hi : I64 l) (hlo : i64 lo) (hle : ∀ x ∈ l, lo ≤ x) (hw : w ≤ 64) (hL : Lt w (ds lo l)) {pre : List Int} (hp : pre.length ≤ 100)
include hl hi hlo hle hw hL hp
end
theorem col_min {x : Int} {l : List Int} (hl : (x :: l).length ≤ 4096) : slices_Min_int64_int64 (x :: l) = some (mn x l) := by
  simp only [List.length_cons] at hl
  unfold slices_Min_int64_int64
  rw [if_neg (by simp only [decide_eq_true_eq, List.length_cons]; omega), show at_ (x :: l) 0 = some x from rfl]
  simp only [Option.bind_some]
  have := loop_to (b := fun s : Int × Int => slices_Min_int64_int64_l1 (x :: l) s.1 s.2) (fun k => (mn x (l.take k), ((k + 1 : Nat) : Int))) (t := mn x l) l.length (fun k hk => by
    have hx := List.getElem?_eq_getElem hk
    show slices_Min_int64_int64_l1 (x :: l) (mn x (l.take k)) ((k + 1 : Nat) : Int) = _
    unfold slices_Min_int64_int64_l1
    rw [if_pos (by simp only [decide_eq_true_eq, List.length_cons]; omega), at_int rfl (by rw [List.getElem?_cons_succ]; exact hx)]
    simp only [Option.bind_some, lt_]
    rw [w64 (by omega) (by omega), take_snoc hx, mn_snoc]
    rfl) (by
    show slices_Min_int64_int64_l1 (x :: l) (mn x (l.take l.length)) ((l.length + 1 : Nat) : Int) = _
    unfold slices_Min_int64_int64_l1
    rw [if_neg (by simp), List.take_length])
  rw [show ((x, 1) : Int × Int) = (fun k => (mn x (l.take k), ((k + 1 : Nat) : Int))) 0 from rfl, this]
  rfl
section
variable {l : List Int} {lo : Int} (hl : l.length ≤ 4096) (hi : I64 l) (hlo : i64 lo) (hle : ∀ x ∈ l, lo ≤ x)
include hl hi hlo hle
omit hl in
theorem ds_bl : ∀ d ∈ ds lo l, bl d ≤ 64 := by
  intro d hd
  obtain ⟨x, hx, rfl⟩ := List.mem_map.1 hd
  exact bl_le 64 _ (d_eq (hi x hx) hlo (hle x hx)).2
omit hl in
theorem wdt_64 (k : Nat) : wdt ((ds lo l).take k) ≤ 64 := wdt_le 64 _ _ rfl fun d hd => ds_bl hi hlo hle d (List.mem_of_mem_take hd)
theorem col_wdt : loop (fun s : Int × Int => column_pack_l3 l lo s.1 s.2) (0, 0) = some (wdt (ds lo l) : Int) := by
  have := loop_to (b := fun s : Int × Int => column_pack_l3 l lo s.1 s.2) (fun k => ((wdt ((ds lo l).take k) : Int), (k : Int))) (t := (wdt (ds lo l) : Int)) l.length (fun k hk => by
    have hx := List.getElem?_eq_getElem hk
    obtain ⟨e, e'⟩ := d_eq (hi.get hx) hlo (hle _ (List.mem_of_getElem? hx))
    show column_pack_l3 l lo (wdt ((ds lo l).take k) : Int) (k : Int) = _
    unfold column_pack_l3
    rw [if_pos (by simp only [decide_eq_true_eq]; omega), at_int rfl hx]
    simp only [Option.bind_some, lt_]
    rw [e, Len_eq e']
    simp only [Option.bind_some]
    rw [w64 (by omega) (by omega), List.take_add_one (i := k), ds_get hx]
    show some (Sum.inl _) = some (Sum.inl (((wdt ((ds lo l).take k ++ [(l[k] - lo).toNat]) : Nat) : Int), ((k + 1 : Nat) : Int)))
    rw [wdt_snoc]
    congr 3
    split <;> split <;> omega) (by
    show column_pack_l3 l lo (wdt ((ds lo l).take l.length) : Int) (l.length : Int) = _
    unfold column_pack_l3
    rw [if_neg (by simp), List.take_of_length_le (by rw [ds_length]; exact Nat.le_refl _)])
  simpa [wdt] using this
end
theorem mn_all {x : Int} {l : List Int} : ∀ y ∈ x :: l, mn x l ≤ y := fun y hy => by
  rcases List.mem_cons.1 hy with rfl | h
  · exact (mn_le l y).1
  · exact (mn_le l x).2 y h
theorem col3 {l pre : List Int} (hl : l.length ≤ 4096) (hi : I64 l) (hp : pre.length ≤ 20) : column_pack pre l = some (pre ++ pk l) := by
  cases l with
  | nil => simp [column_pack, pk]
  | cons x l =>
    have hlo := mn_i64 hi
    have hle := mn_all (x := x) (l := l)
    unfold column_pack
    rw [if_neg (by simp; omega), col_min hl]
    simp only [Option.bind_some]
    rw [col_wdt hl hi hlo hle]
    simp only [Option.bind_some]
    have hw : wdt (ds (mn x l) (x :: l)) ≤ 64 := by
      have := wdt_64 hi hlo hle (x :: l).length
      rwa [List.take_of_length_le (by rw [ds_length]; exact Nat.le_refl _)] at this
    have hL := Lt_wdt (ds (mn x l) (x :: l))
    have hz := uv_length64 (zz_lt hlo)
    simp only [pk]
    generalize wdt (ds (mn x l) (x :: l)) = w at hw hL ⊢
    have h2 : (x :: l).length * w ≤ 4096 * 64 := Nat.mul_le_mul hl hw
    unfold column_pack_x3_0 column_pack_b1
    rw [Int_app hlo _ (by omega)]
    simp only [Option.bind_some, lt_]
    rw [u8w (n := (w : Int)) (by omega) (by omega), chk_pos (by simp only [List.length_append, List.length_singleton]; omega), ← Int.natCast_mul, w64 (n := (((x :: l).length * w : Nat) : Int)) (by omega) (by omega), w64 (n := (((x :: l).length * w : Nat) : Int) + 7) (by omega) (by omega),
      show ((((x :: l).length * w : Nat) : Int) + 7).tdiv 8 = ((((x :: l).length * w + 7) / 8 : Nat) : Int) from rfl, w64 (by omega) (by omega), chk_pos (by omega), Int.toNat_natCast, col_all hl hi hlo hle hw hL]
    simp only [Option.bind_some]
    unfold column_pack_x1_2 column_pack_b2
    rw [chk_pos (by simp only [List.length_append, List.length_singleton, ofN_length, by_length]; omega)]
    simp
theorem As_col {w : Nat} {l : List Int} (hw : w < 4) (hl : l.length ≤ 4096) (hi : I64 l) : column_As (w : Int) l = some (asL w l) := by
  have hu := uv_length64 (n := l.length) (by omega)
  unfold column_As
  rw [lt_, u64w (by omega) (by omega), Uint_app _ _ (by omega) (by simp; omega)]
  simp only [Option.bind_some]
  have hp : ([(w : Int)] ++ uv l.length).length ≤ 20 := by simp; omega
  unfold asL
  match w, hw with
  | 0, _ =>
    rw [if_pos (by rfl), col0 hl hi hp]
    simp [column_As_x1_1, column_As_b2, column_As_b1, body]
  | 1, _ =>
    rw [if_neg (by decide), if_pos (by rfl), col1 hl hp]
    simp [column_As_x2_3, column_As_b3, column_As_b1, body]
  | 2, _ =>
    rw [if_neg (by decide), if_neg (by decide), if_pos (by rfl), col2 hl hi hp]
    simp [column_As_x3_5, column_As_b4, column_As_b1, body]
  | 3, _ =>
    rw [if_neg (by decide), if_neg (by decide), if_neg (by decide), if_pos (by rfl), col3 hl hi hp]
    simp [column_As_b1, body]
def shorter (a b : List Int) : List Int := if b.length < a.length then b else a
def intsL (l : List Int) : List Int := shorter (shorter (shorter (asL 0 l) (asL 1 l)) (asL 2 l)) (asL 3 l)
theorem Ints_col {l : List Int} (hl : l.length ≤ 4096) (hi : I64 l) : column_Ints l = some (intsL l) := by
  have hA : ∀ w : Nat, w < 4 → column_As (w : Int) l = some (asL w l) := fun w hw => As_col hw hl hi
  unfold intsL
  unfold column_Ints
  obtain ⟨p, hp⟩ : ∃ p : Nat → List Int, ∀ w, p w = asL w l := ⟨_, fun _ => rfl⟩
  have step : ∀ (b : List Int) (w : Nat), 1 ≤ w → w < 4 → column_Ints_l1 l b (w : Int) = some (.inl (shorter b (p w), ((w + 1 : Nat) : Int))) := by
    intro b w h1 h4
    unfold column_Ints_l1 column_Ints_b2 shorter
    rw [if_pos (by simp only [decide_eq_true_eq]; omega), hA w h4, hp]
    simp only [Option.bind_some, lt_]
    rw [u8w (by omega) (by omega)]
    by_cases h : (asL w l).length < b.length
    · rw [if_pos (by simp only [decide_eq_true_eq]; omega), if_pos h]; rfl
    · rw [if_neg (by simp only [decide_eq_true_eq]; omega), if_neg h]; rfl
  have h0 := hA 0 (by decide)
  rw [show ((0 : Nat) : Int) = 0 from rfl] at h0
  rw [h0, ← hp 0, ← hp 1, ← hp 2, ← hp 3]
  clear hA h0 hp
  simp only [Option.bind_some]
  have h4 : ∀ b, column_Ints_l1 l b ((4 : Nat) : Int) = some (.inr b) := by
    intro b
    unfold column_Ints_l1
    rw [if_neg (by decide)]
  have := ((loop_nxt (b := fun s : List Int × Int => column_Ints_l1 l s.1 s.2) (s := (p 0, ((1 : Nat) : Int))) (step (p 0) 1 (by decide) (by decide))).trans
    ((loop_nxt (b := fun s : List Int × Int => column_Ints_l1 l s.1 s.2) (s := (shorter (p 0) (p 1), ((2 : Nat) : Int))) (step _ 2 (by decide) (by decide))).trans
    ((loop_nxt (b := fun s : List Int × Int => column_Ints_l1 l s.1 s.2) (s := (shorter (shorter (p 0) (p 1)) (p 2), ((3 : Nat) : Int))) (step _ 3 (by decide) (by decide))).trans (loop_end (b := fun s : List Int × Int => column_Ints_l1 l s.1 s.2) (s := (shorter (shorter (shorter (p 0) (p 1)) (p 2)) (p 3), ((4 : Nat) : Int))) (h4 _)))))
  rw [show (1 : Int) = ((1 : Nat) : Int) from rfl, this]
  rfl
end Go.Proofs.YteodeedejjcmgaaDoor.P
namespace Go.Proofs.YteodeedejjcmgaaDoor.P
open Go Go.RowKit Go.Proofs.YteodeedejjcmgaaDoor.E Go.Proofs.YteodeedejjcmgaaDoor.M
set_option linter.unusedVariables false
set_option linter.unusedSectionVars false
def part (n w v : Nat) : List Int := (List.range n).map fun q => IntKind.i64.wrap ((v / 2 ^ (q * w) % 2 ^ w : Nat) : Int)
end Go.Proofs.YteodeedejjcmgaaDoor.P
namespace Go.Proofs.YteodeedejjcmgaaDoor.P
open Go Go.RowKit Go.Proofs.YteodeedejjcmgaaDoor.E Go.Proofs.YteodeedejjcmgaaDoor.M
set_option linter.unusedVariables false
set_option linter.unusedSectionVars false
theorem shorter_or (a b : List Int) : shorter a b = a ∨ shorter a b = b := by
  unfold shorter
  split
  · exact .inr rfl
  · exact .inl rfl
theorem shorter_le (a b : List Int) : (shorter a b).length ≤ a.length ∧ (shorter a b).length ≤ b.length := by
  unfold shorter
  split <;> omega
theorem intsL_as (l : List Int) : ∃ w < 4, intsL l = asL w l := by
  unfold intsL
  rcases shorter_or (shorter (shorter (asL 0 l) (asL 1 l)) (asL 2 l)) (asL 3 l) with h | h
  · rw [h]
    rcases shorter_or (shorter (asL 0 l) (asL 1 l)) (asL 2 l) with h | h
    · rw [h]
      rcases shorter_or (asL 0 l) (asL 1 l) with h | h
      · exact ⟨0, by decide, h⟩
      · exact ⟨1, by decide, h⟩
    · exact ⟨2, by decide, h⟩
  · exact ⟨3, by decide, h⟩
theorem intsL_le (l : List Int) {w : Nat} (hw : w < 4) : (intsL l).length ≤ (asL w l).length := by
  have h3 := shorter_le (shorter (shorter (asL 0 l) (asL 1 l)) (asL 2 l)) (asL 3 l)
  have h2 := shorter_le (shorter (asL 0 l) (asL 1 l)) (asL 2 l)
  have h1 := shorter_le (asL 0 l) (asL 1 l)
  unfold intsL
  match w, hw with
  | 0, _ => omega
  | 1, _ => omega
  | 2, _ => omega
  | 3, _ => omega
theorem Bs.ofN {D : List Nat} (h : Lt 8 D) : Bs (ofN D) := by
  intro b hb
  obtain ⟨d, hd, rfl⟩ := List.mem_map.1 hb
  have := h d hd
  omega
theorem Bs_b0 : ∀ (l : List Int), Bs (b0 l)
  | [] => Bs.nil
  | x :: l => by
    have e : b0 (x :: l) = uv (zz x) ++ b0 l := by simp [b0]
    rw [e]
    exact (Bs.uv _).app (Bs_b0 l)
theorem Bs_bD : ∀ (l : List Int) (a : Int), Bs (bD a l)
  | [], _ => Bs.nil
  | x :: l, a => (Bs.uv _).app (Bs_bD l x)
theorem Bs_bR : ∀ (l : List Int) (k : Nat), Bs (bR k l)
  | [], _ => Bs.nil
  | [x], k => (Bs.uv _).app (Bs.uv _)
  | x :: y :: l, k => by
    unfold bR
    split
    · exact Bs_bR (y :: l) _
    · exact ((Bs.uv _).app (Bs.uv _)).app (Bs_bR (y :: l) _)
theorem Bs_pk {l : List Int} (hi : I64 l) : Bs (pk l) := by
  cases l with
  | nil => exact Bs.nil
  | cons x l =>
    have hlo := mn_i64 hi
    have hle := mn_all (x := x) (l := l)
    have hw : wdt (ds (mn x l) (x :: l)) ≤ 64 := by
      have := wdt_64 hi hlo hle (x :: l).length
      rwa [List.take_of_length_le (by rw [ds_length]; exact Nat.le_refl _)] at this
    exact ((Bs.uv _).app (Bs.mk (by omega) Bs.nil)).app (Bs.ofN (by_lt _ _))
theorem Bs_as {w : Nat} {l : List Int} (hw : w < 4) (hi : I64 l) : Bs (asL w l) := by
  refine Bs.mk (by omega) ((Bs.uv _).app ?_)
  match w, hw with
  | 0, _ => exact Bs_b0 l
  | 1, _ => exact Bs_bD l 0
  | 2, _ => exact Bs_bR l 0
  | 3, _ => exact Bs_pk hi
theorem len_pk {l : List Int} (hl : l.length ≤ 4096) (hi : I64 l) : (pk l).length ≤ 11 + (l.length * 64 + 7) / 8 := by
  cases l with
  | nil => simp [pk]
  | cons x l =>
    have hlo := mn_i64 hi
    have hle := mn_all (x := x) (l := l)
    have hw : wdt (ds (mn x l) (x :: l)) ≤ 64 := by
      have := wdt_64 hi hlo hle (x :: l).length
      rwa [List.take_of_length_le (by rw [ds_length]; exact Nat.le_refl _)] at this
    have hz := uv_length64 (zz_lt hlo)
    have := Nat.mul_le_mul_left (x :: l).length hw
    simp only [pk, List.length_append, List.length_singleton, ofN_length, by_length]
    generalize (x :: l).length = n at *
    omega
theorem len_as {w : Nat} {l : List Int} (hw : w < 4) (hl : l.length ≤ 4096) (hi : I64 l) : (asL w l).length ≤ 1048576 := by
  have hu := uv_length64 (n := l.length) (by omega)
  unfold asL
  simp only [List.length_cons, List.length_append]
  match w, hw with
  | 0, _ => have := len_b0 hi; simp only [body]; omega
  | 1, _ => have := len_bD l 0; simp only [body]; omega
  | 2, _ => have := len_bR l 0 hi (by omega); simp only [body]; omega
  | 3, _ => have := len_pk hl hi; simp only [body]; omega
end Go.Proofs.YteodeedejjcmgaaDoor.P
namespace Go.Proofs.YteodeedejjcmgaaDoor.P
open Go Go.RowKit Go.Proofs.YteodeedejjcmgaaDoor.E Go.Proofs.YteodeedejjcmgaaDoor.M
set_option linter.unusedVariables false
set_option linter.unusedSectionVars false
def nanB (a : Nat) : Bool := a / 4503599627370496 % 2048 == 2047 && a % 4503599627370496 != 0
theorem order_self (d : Ieee.Datum) : (d.order d == some .eq) = !d.isNaN := by
  cases d with
  | number s m p => simp [Ieee.Datum.order, Ieee.Datum.isNaN]
  | infinity s => simp [Ieee.Datum.order, Ieee.Datum.isNaN]
  | nan s f => simp [Ieee.Datum.order, Ieee.Datum.isNaN]
theorem feq_self (a : Nat) : feq a a = !nanB a := by
  unfold feq Ieee.Format.order
  rw [order_self]
  congr 1
  unfold Ieee.Format.read nanB
  have e1 : FloatKind.f64.format.signWeight = 9223372036854775808 := by decide
  have e2 : FloatKind.f64.format.binade = 4503599627370496 := by decide
  have e3 : FloatKind.f64.format.infRung = 9218868437227405312 := by decide
  simp only [e1, e2, e3]
  rw [Bool.eq_iff_iff]
  simp only [Bool.and_eq_true, beq_iff_eq, bne_iff_ne, ne_eq]
  split
  · simp [Ieee.Datum.isNaN]; omega
  · split
    · simp [Ieee.Datum.isNaN]; omega
    · split
      · simp [Ieee.Datum.isNaN]; omega
      · simp [Ieee.Datum.isNaN]; omega
def canon (a : Nat) : Nat := if nanB a then 9221120237041090560 else a
theorem cCanon_eq (a : Nat) : real_Canon a = some (canon a) := by
  unfold real_Canon math_IsNaN canon
  simp only [Option.bind_some, feq_self]
  cases nanB a <;> rfl
theorem cBits_eq (a : Nat) : real_Bits a = some (canon a : Int) := by
  unfold real_Bits
  rw [cCanon_eq]; rfl
def rl (l : List Nat) : List Int := l.map fun x => IntKind.i64.wrap (canon x : Int)
theorem rl_i64 (l : List Nat) : I64 (rl l) := fun x hx => by
  obtain ⟨y, _, rfl⟩ := List.mem_map.1 hx
  exact i64_wrap _
theorem rl_length (l : List Nat) : (rl l).length = l.length := by simp [rl]
theorem rl_snoc {l : List Nat} {k x : Nat} (h : l[k]? = some x) : rl (l.take (k + 1)) = rl (l.take k) ++ [IntKind.i64.wrap (canon x : Int)] := by
  unfold rl
  rw [List.take_add_one, h, List.map_append]; rfl
theorem Reals_col {l : List Nat} (h : l.length ≤ 4096) : column_Reals l = some (intsL (rl l)) := by
  unfold column_Reals
  have := loop_to (b := fun s : List Int × Int => column_Reals_l1 l s.1 s.2) (fun k => (rl (l.take k), (k : Int))) (t := rl l) l.length (fun k hk => by
    have hx := List.getElem?_eq_getElem hk
    have hlen : (rl (l.take k)).length = k := by rw [rl_length, List.length_take]; omega
    show column_Reals_l1 l (rl (l.take k)) (k : Int) = _
    unfold column_Reals_l1
    rw [if_pos (by simp only [decide_eq_true_eq]; omega), at_int rfl hx]
    simp only [Option.bind_some]
    rw [cBits_eq]
    simp only [Option.bind_some, lt_]
    rw [chk_pos (by rw [hlen]; simp only [List.length_singleton]; omega), w64 (n := (k : Int) + 1) (by omega) (by omega), ← rl_snoc hx]
    rfl) (by
    show column_Reals_l1 l (rl (l.take l.length)) (l.length : Int) = _
    unfold column_Reals_l1
    rw [if_neg (by simp), List.take_length])
  rw [show (([], 0) : List Int × Int) = (fun k => (rl (l.take k), (k : Int))) 0 by simp [rl], this]
  simp only [Option.bind_some]
  unfold column_Reals_x1_0 column_Reals_b1
  rw [Ints_col (by rw [rl_length]; exact h) (rl_i64 l)]
  rfl
end Go.Proofs.YteodeedejjcmgaaDoor.P
namespace Go.Proofs.YteodeedejjcmgaaDoor.P
open Go Go.RowKit Go.Proofs.YteodeedejjcmgaaDoor.E Go.Proofs.YteodeedejjcmgaaDoor.M
set_option linter.unusedVariables false
set_option linter.unusedSectionVars false
def IsT (B acc : List Int) (t : List Int × Int × List Int) (p : Option (List Int × List Int)) : Prop :=
  match p with
  | some (l, r) => ∃ q : Nat, t = (B, (q : Int), acc ++ l) ∧ q ≤ B.length ∧ B.drop q = r
  | none => ∃ a, t = (B, -1, a)
theorem IsT.cons {B acc : List Int} {t : List Int × Int × List Int} {p : Option (List Int × List Int)} (x : List Int) (h : IsT B (acc ++ x) t p) :
    IsT B acc t (match (generalizing := false) p with | some (l, r) => some (x ++ l, r) | none => none) := by
  cases p with
  | none => exact h
  | some y =>
    obtain ⟨q, h1, h2, h3⟩ := h
    exact ⟨q, by rw [h1, List.append_assoc], h2, h3⟩
section
variable {B : List Int} (hBs : Bs B) (hB : B.length < 1099511627776)
include hBs hB
end
section
variable {B : List Int} (hBs : Bs B) (hB : B.length < 1099511627776)
include hBs hB
end
end Go.Proofs.YteodeedejjcmgaaDoor.P
namespace Go.Proofs.YteodeedejjcmgaaDoor.P
open Go Go.RowKit Go.Proofs.YteodeedejjcmgaaDoor.E Go.Proofs.YteodeedejjcmgaaDoor.M
set_option linter.unusedVariables false
set_option linter.unusedSectionVars false
section
variable {B xs : List Int} {p : Nat} (hp : p ≤ B.length) (hx : B.drop p = xs) (hBs : Bs xs) (hB : B.length < 1099511627776) (hs : xs.length ≤ 32768)
include hp hx hBs hB hs
end
end Go.Proofs.YteodeedejjcmgaaDoor.P
