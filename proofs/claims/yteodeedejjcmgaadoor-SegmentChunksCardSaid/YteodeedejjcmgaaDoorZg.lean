/- Texts of the claim, joined: what it uses of MlSegmentChunks, LSegmentChunks, DlSegmentNil, DlSegmentWrites, DlSegmentTurned, DlSegmentPrunes, DlSegmentParted, DlSegmentScans, Qa, Qb, Qc, Qd, Qe, Qf, Qg, Qh. -/
import Derived.Test.YteodeedejjcmgaaDoorZf
import Derived.Test.YteodeedejjcmgaaDoorCards
import Derived.Test.YteodeedejjcmgaaDoorTie
import Derived.SevenTiedAt
import Derived.LaidMore
import Derived.OpenShut
import Derived.Stop.Joined
import Derived.ProofKit
import Derived.IntWalk
namespace Go.Proofs.YteodeedejjcmgaaDoor.M
open Go Go.RowKit Go.Proofs.YteodeedejjcmgaaDoor.E
set_option linter.unusedVariables false
set_option maxRecDepth 100000
set_option maxHeartbeats 4000000
set_option linter.unusedSimpArgs false
theorem F_law07_SegmentChunks {r : World} {L : List HP} {w : World} {Z : Nat → Prop} {wz : World} (a0 : (List S44)) (a1 : Int) (a2 : S33) (A0 : Option Addr) (n0 : Nat) (c0 : Nat) {y : (Bool)} (hF : law07_SegmentChunks a0 a1 a2 = some y) (ha0 : Imm Z wz k44 A0 n0 c0 a0) (hG0 : Imm Z wz (kI .u32) (some ⟨0, 0, none⟩) 16 16 gl_page_table) (hS : SH r (zone Z wz :: L) w) :
  Ret Tryd.prog 4 #[.slice A0 n0 c0, .int .u8 a1, .agg #[.int .u64 a2.f0, .int .u64 a2.f1, .int .i64 a2.f2, .int .i64 a2.f3]] w fun v w' => ∃ (Z' : Nat → Prop) (wz' : World), v = .bool y ∧ Sub Z wz Z' wz' ∧ SH r (zone Z' wz' :: L) w' := by
 refine enter Tryd.func4 rfl Tryd.ntmps4 [(0, .slice A0 n0 c0), (1, .int .u8 a1), (2, .agg #[.int .u64 a2.f0, .int .u64 a2.f1, .int .i64 a2.f2, .int .i64 a2.f3])] rfl (by simp) ?_
 intro ac hA Qf hQ hQn
 unfold law07_SegmentChunks at hF
 refine ws fun K101 hK101 => ?_
 refine x_box hA hS (fun g102 ac w hS hA => ?_) rfl rfl rfl rfl rfl rfl
 refine x_m hA rfl fun ac hA => ?_
 refine wn (hK101 _ _ ?_)
 refine wp_seq_k fun K103 hK103 => ?_
 refine wp_seq_k fun K104 hK104 => ?_
 have hj1 : ∀ (b116 : Bool), law07_SegmentChunks_j1 a0 a1 a2 b116 = some y → ∀ (Z112 : Nat → Prop) (wz113 : World) (h114 : Sub Z wz Z112 wz113) (h115 : Imm Z112 wz113 k44 A0 n0 c0 a0) (ac : Act) (w : World), FR 158 [] ac [(0, .slice A0 n0 c0), (1, .int .u8 a1), (5, .pointer (some ⟨g102, 0, none⟩)), (25, .bool b116)] → SH r (blk g102 33 [.int .u64 a2.f0, .int .u64 a2.f1, .int .i64 a2.f2, .int .i64 a2.f3] :: zone Z112 wz113 :: L) w → K104 ac w := by
  intro b116 hF Z112 wz113 h114 h115 ac w hA hS
  unfold law07_SegmentChunks_j1 at hF
  refine hK104 _ _ ?_
  refine c_if hA rfl (fun hb117 => ?_) fun hb117 => ?_
  ·replace hF := ift hb117 hF
   refine ws fun K118 hK118 => ?_
   replace hS := hS.pk 1
   obtain ⟨y119, h120, hF⟩ := bnd hF
   refine x_call en10 hA (F_law07_awake (L := blk g102 33 [.int .u64 a2.f0, .int .u64 a2.f1, .int .i64 a2.f2, .int .i64 a2.f3] :: L) h120 (Imm.sub hG0 h114) hS) (fun v ac w hR hA => ?_) rfl rfl rfl rfl rfl
   obtain ⟨Z121, wz122, rfl, h123, hS⟩ := hR
   have h124 := Imm.sub h115 h123
   refine x_m hA rfl fun ac hA => ?_
   refine wn (hK118 _ _ ?_)
   refine wp_ret ?_
   replace hS := hS.drop 1
   cases hF
   refine hQ _ _ ?_
   refine lv Tryd.results4 hA rfl ?_
   exact ⟨Z121, wz122, rfl, (Sub.trans h114 h123), hS⟩
  replace hF := iff' hb117 hF
  refine wp_skip ?_
  refine hK103 _ _ ?_
  refine ws fun K125 hK125 => ?_
  refine x_m hA rfl fun ac hA => ?_
  obtain ⟨x126, h127, hF⟩ := ltt_ hF
  refine x_v (v := .int .i64 x126) hA (rv_i h127 (r_convI Tryd.underlying5 Tryd.underlying3 rfl (hA.ev rfl))) rfl fun ac hA => ?_
  refine x_v hA (r_rem rfl (hA.ev rfl) (hA.ev rfl) (by decide)) rfl fun ac hA => ?_
  obtain ⟨x128, h129, hF⟩ := ltt_ hF
  refine x_v (v := .int .i64 x128) hA (rv_i h129 (r_add rfl (hA.ev rfl) (hA.ev rfl))) rfl fun ac hA => ?_
  refine x_m hA rfl fun ac hA => ?_
  refine wn (hK125 _ _ ?_)
  refine ws fun K130 hK130 => ?_
  refine x_m hA rfl fun ac hA => ?_
  refine x_m hA rfl fun ac hA => ?_
  obtain ⟨y131, h132, hF⟩ := bnd hF
  refine x_call en13 hA (F_law07_stretch (L := blk g102 33 [.int .u64 a2.f0, .int .u64 a2.f1, .int .i64 a2.f2, .int .i64 a2.f3] :: zone Z112 wz113 :: L) a0 5 x128 A0 n0 c0 h132 (h115.rdl 1 rfl) hS) (fun v ac w hR hA => ?_) rfl rfl rfl rfl rfl
  obtain ⟨B133, m134, d135, rfl, hS⟩ := hR
  refine x_m hA rfl fun ac hA => ?_
  refine wn (hK130 _ _ ?_)
  refine wp_seq_k fun K136 hK136 => ?_
  refine ws fun K137 hK137 => ?_
  refine x_m hA rfl fun ac hA => ?_
  refine x_len Tryd.underlying22 (hS.rd 0 rfl).2.1 hA (fun ac hA => ?_) rfl rfl rfl rfl rfl
  refine x_v hA (r_eqI rfl (hA.ev rfl) (hA.ev rfl)) rfl fun ac hA => ?_
  refine wn (hK137 _ _ ?_)
  refine c_if hA rfl (fun hb138 => ?_) fun hb138 => ?_
  ·replace hF := ift hb138 hF
   refine ws fun K139 hK139 => ?_
   refine x_m hA rfl fun ac hA => ?_
   refine wn (hK139 _ _ ?_)
   refine wp_ret ?_
   replace hS := hS.drop 0
   replace hS := hS.drop 0
   cases hF
   refine hQ _ _ ?_
   refine lv Tryd.results4 hA rfl ?_
   exact ⟨Z112, wz113, rfl, h114, hS⟩
  replace hF := iff' hb138 hF
  refine wp_skip ?_
  refine hK136 _ _ ?_
  refine ws fun K140 hK140 => ?_
  refine x_m hA rfl fun ac hA => ?_
  refine x_m hA rfl fun ac hA => ?_
  replace hS := hS.pk 2
  replace hS := hS.pk 1
  obtain ⟨Z141, wz142, hS, h143, sb144⟩ := SH.freeze (n := m134) (c := d135) (A := B133) hS
  have h145 := Imm.sub h115 sb144
  obtain ⟨y146, h147, hF⟩ := bnd hF
  refine x_call en11 hA (F_segment_Write (L := blk g102 33 [.int .u64 a2.f0, .int .u64 a2.f1, .int .i64 a2.f2, .int .i64 a2.f3] :: L) y131 x128 B133 m134 d135 h147 h143 (Imm.sub hG0 (Sub.trans h114 sb144)) hS) (fun v ac w hR hA => ?_) rfl rfl rfl rfl rfl
  obtain ⟨Z148, wz149, B150, m151, d152, rfl, h153, hS⟩ := hR
  have h154 := Imm.sub h145 h153
  have h155 := Imm.sub h143 h153
  refine x_m hA rfl fun ac hA => ?_
  refine x_v hA (r_extract rfl (hA.ev rfl) rfl) rfl fun ac hA => ?_
  refine x_v hA (r_extract rfl (hA.ev rfl) rfl) rfl fun ac hA => ?_
  refine x_m hA rfl fun ac hA => ?_
  refine x_m hA rfl fun ac hA => ?_
  refine wn (hK140 _ _ ?_)
  refine ws fun K156 hK156 => ?_
  refine x_m hA rfl fun ac hA => ?_
  replace hS := hS.pk 1
  replace hS := hS.pk 1
  obtain ⟨Z157, wz158, hS, h159, sb160⟩ := SH.freeze (n := m151) (c := d152) (A := B150) hS
  have h161 := Imm.sub h154 sb160
  have h162 := Imm.sub h155 sb160
  obtain ⟨y163, h164, hF⟩ := bnd hF
  refine x_call en14 hA (F_segment_Open (L := blk g102 33 [.int .u64 a2.f0, .int .u64 a2.f1, .int .i64 a2.f2, .int .i64 a2.f3] :: L) y146.1 B150 m151 d152 h164 h159 (Imm.sub hG0 (Sub.trans (Sub.trans (Sub.trans h114 sb144) h153) sb160)) hS) (fun v ac w hR hA => ?_) rfl rfl rfl rfl rfl
  obtain ⟨Z165, wz166, p167, rfl, h168, hS⟩ := hR
  have h169 := Imm.sub h161 h168
  have h170 := Imm.sub h162 h168
  have h171 := Imm.sub h159 h168
  refine x_m hA rfl fun ac hA => ?_
  refine x_v hA (r_extract rfl (hA.ev rfl) rfl) rfl fun ac hA => ?_
  refine x_v hA (r_extract rfl (hA.ev rfl) rfl) rfl fun ac hA => ?_
  refine x_m hA rfl fun ac hA => ?_
  refine x_m hA rfl fun ac hA => ?_
  refine wn (hK156 _ _ ?_)
  refine wp_seq_k fun K172 hK172 => ?_
  refine ws fun K173 hK173 => ?_
  refine x_m hA rfl fun ac hA => ?_
  refine x_v hA (r_neI rfl (hA.ev rfl) (hA.ev rfl)) rfl fun ac hA => ?_
  refine wn (hK173 _ _ ?_)
  refine c_if hA rfl (fun hb174 => ?_) fun hb174 => ?_
  ·replace hF := ift hb174 hF
   refine ws fun K175 hK175 => ?_
   refine x_m hA rfl fun ac hA => ?_
   refine wn (hK175 _ _ ?_)
   refine wp_ret ?_
   replace hS := hS.drop 0
   replace hS := hS.drop 1
   cases hF
   refine hQ _ _ ?_
   refine lv Tryd.results4 hA rfl ?_
   exact ⟨Z165, wz166, rfl, (Sub.trans (Sub.trans (Sub.trans (Sub.trans h114 sb144) h153) sb160) h168), hS⟩
  replace hF := iff' hb174 hF
  refine wp_skip ?_
  refine hK172 _ _ ?_
  refine ws fun K176 hK176 => ?_
  refine x_m hA rfl fun ac hA => ?_
  obtain ⟨y177, h178, hF⟩ := bnd hF
  refine x_call en15 hA (F_segment_Segment_Chunks (L := zone Z165 wz166 :: blk g102 33 [.int .u64 a2.f0, .int .u64 a2.f1, .int .i64 a2.f2, .int .i64 a2.f3] :: L) y163.1 p167 h178 0 rfl hS) (fun v ac w hR hA => ?_) rfl rfl rfl rfl rfl
  obtain ⟨B179, m180, d181, rfl, hS⟩ := hR
  refine x_m hA rfl fun ac hA => ?_
  refine wn (hK176 _ _ ?_)
  refine ws fun K182 hK182 => ?_
  refine x_m hA rfl fun ac hA => ?_
  refine wn (hK182 _ _ ?_)
  refine wp_seq_k fun K183 hK183 => ?_
  refine ws fun K12468 hK12468 => ?_
  refine x_m hA rfl fun ac hA => ?_
  refine wn (hK12468 _ _ ?_)
  refine wp_block_k fun Kx12469 hKx12469 => ?_
  have hb1 : ∀ (x18610 : Int), law07_SegmentChunks_b1 y131 x18610 = some y → ∀ (ac : Act) (w : World), FR 158 [] ac [(8, .slice B133 m134 d135), (14, .int .i64 x18610)] → SH r (zone Z165 wz166 :: L) w → Kx12469 ac w := by
   intro x18610 hF ac w hA hS
   unfold law07_SegmentChunks_b1 at hF
   refine hKx12469 _ _ ?_
   refine hK183 _ _ ?_
   refine ws fun K18611 hK18611 => ?_
   refine x_m hA rfl fun ac hA => ?_
   refine x_m hA rfl fun ac hA => ?_
   refine x_len Tryd.underlying22 (hS.imm 0 h170 rfl).2.1 hA (fun ac hA => ?_) rfl rfl rfl rfl rfl
   refine x_v hA (r_eqI rfl (hA.ev rfl) (hA.ev rfl)) rfl fun ac hA => ?_
   refine x_m hA rfl fun ac hA => ?_
   refine wn (hK18611 _ _ ?_)
   refine wp_ret ?_
   cases hF
   refine hQ _ _ ?_
   refine lv Tryd.results4 hA rfl ?_
   exact ⟨Z165, wz166, rfl, (Sub.trans (Sub.trans (Sub.trans (Sub.trans h114 sb144) h153) sb160) h168), hS⟩
  obtain ⟨t22706, hl22706, hF⟩ := bnd hF
  have hR22706 := hF
  have hx22706_0 : ∀ (x22706 : Int), (.inl (x22706)) = t22706 → ∀ (ac : Act) (w : World), FR 158 [] ac [(8, .slice B133 m134 d135), (14, .int .i64 x22706)] → SH r (zone Z165 wz166 :: L) w → Kx12469 ac w := by
   intro x22706 ht ac w hA hS
   subst ht
   replace hF : law07_SegmentChunks_x1_0 y131 x22706 = some y := hF
   unfold law07_SegmentChunks_x1_0 at hF
   exact hb1 x22706 hF ac w (hA.sub _ rfl) hS
  replace hS := hS.drop 1
  replace hS := hS.pk 1
  replace hS := hS.pk 1
  replace hS := hS.pk 2
  refine wp_loop_fn hl22706 (fun s ac w => FR 158 [] ac [(5, .pointer (some ⟨g102, 0, none⟩)), (8, .slice B133 m134 d135), (13, .slice B179 m180 d181), (14, .int .i64 s.1), (15, .int .i64 s.2)] ∧ SH r (blk g102 33 [.int .u64 a2.f0, .int .u64 a2.f1, .int .i64 a2.f2, .int .i64 a2.f3] :: own k41 41 B179 m180 d181 y177 :: zone Z165 wz166 :: L) w) ⟨hA.sub _ rfl, hS⟩ ?_
  intro N22706 s22706 o22706 hF N22706_ T22706_ ac w hLab
  obtain ⟨x20658, x20659⟩ := s22706
  replace hF : law07_SegmentChunks_l1 a2 y131 y177 x20658 x20659 = some o22706 := hF
  unfold law07_SegmentChunks_l1 at hF
  try dsimp only at hLab
  obtain ⟨hA, hS⟩ := hLab
  refine wp_seq_k fun K22708 hK22708 => ?_
  refine ws fun K22709 hK22709 => ?_
  refine x_m hA rfl fun ac hA => ?_
  refine x_m hA rfl fun ac hA => ?_
  refine x_len Tryd.underlying38 (hS.rd 1 rfl).2.1 hA (fun ac hA => ?_) rfl rfl rfl rfl rfl
  refine x_v hA (r_ltI rfl (hA.ev rfl) (hA.ev rfl)) rfl fun ac hA => ?_
  refine wn (hK22709 _ _ ?_)
  refine c_if hA rfl (fun hb22710 => ?_) fun hb22710 => ?_
  ·replace hF := ift hb22710 hF
   refine wp_skip ?_
   refine hK22708 _ _ ?_
   refine wp_seq_k fun K22711 hK22711 => ?_
   refine wp_block_k fun Kx22712 hKx22712 => ?_
   refine ws fun K22713 hK22713 => ?_
   refine x_m hA rfl fun ac hA => ?_
   refine wn (hK22713 _ _ ?_)
   refine wp_seq_k fun K22714 hK22714 => ?_
   refine ws fun K23721 hK23721 => ?_
   refine x_m hA rfl fun ac hA => ?_
   refine wn (hK23721 _ _ ?_)
   refine wp_block_k fun Kx23722 hKx23722 => ?_
   have hb2 : ∀ (b24224 : Bool), law07_SegmentChunks_b2 a2 y177 x20658 x20659 b24224 = some o22706 → ∀ (ac : Act) (w : World), FR 158 [] ac [(5, .pointer (some ⟨g102, 0, none⟩)), (8, .slice B133 m134 d135), (13, .slice B179 m180 d181), (14, .int .i64 x20658), (15, .int .i64 x20659), (16, .bool b24224)] → SH r (blk g102 33 [.int .u64 a2.f0, .int .u64 a2.f1, .int .i64 a2.f2, .int .i64 a2.f3] :: own k41 41 B179 m180 d181 y177 :: zone Z165 wz166 :: L) w → Kx23722 ac w := by
    intro b24224 hF ac w hA hS
    unfold law07_SegmentChunks_b2 at hF
    refine hKx23722 _ _ ?_
    refine hK22714 _ _ ?_
    refine wp_seq_k fun K24225 hK24225 => ?_
    refine wp_seq_k fun K24226 hK24226 => ?_
    have hj2 : ∀ (b24233 : Bool), law07_SegmentChunks_j2 y177 x20658 x20659 b24233 = some o22706 → ∀ (ac : Act) (w : World), FR 158 [] ac [(5, .pointer (some ⟨g102, 0, none⟩)), (8, .slice B133 m134 d135), (13, .slice B179 m180 d181), (14, .int .i64 x20658), (15, .int .i64 x20659), (146, .bool b24233)] → SH r (blk g102 33 [.int .u64 a2.f0, .int .u64 a2.f1, .int .i64 a2.f2, .int .i64 a2.f3] :: own k41 41 B179 m180 d181 y177 :: zone Z165 wz166 :: L) w → K24226 ac w := by
     intro b24233 hF ac w hA hS
     unfold law07_SegmentChunks_j2 at hF
     refine hK24226 _ _ ?_
     refine c_if hA rfl (fun hb24234 => ?_) fun hb24234 => ?_
     ·replace hF := ift hb24234 hF
      refine ws fun K24235 hK24235 => ?_
      refine x_m hA rfl fun ac hA => ?_
      refine wn (hK24235 _ _ ?_)
      refine wp_ret ?_
      replace hS := hS.drop 0
      replace hS := hS.drop 0
      cases hF
      have ht := T22706_ _ rfl
      subst ht
      replace hF := hR22706
      replace hF : some false = some y := hF
      cases hF
      refine hQ _ _ ?_
      refine lv Tryd.results4 hA rfl ?_
      exact ⟨Z165, wz166, rfl, (Sub.trans (Sub.trans (Sub.trans (Sub.trans h114 sb144) h153) sb160) h168), hS⟩
     replace hF := iff' hb24234 hF
     refine wp_skip ?_
     refine hK24225 _ _ ?_
     refine wp_reg ?_
     refine x_m hA rfl fun ac hA => ?_
     refine x_m hA rfl fun ac hA => ?_
     refine x_m hA rfl fun ac hA => ?_
     obtain ⟨x24236, h24237, hF⟩ := bnd hF
     refine x_ia Tryd.underlying38 sz41 (hS.rd 1 rfl) h24237 hA (fun ac hA => ?_) rfl rfl rfl rfl rfl rfl
     refine x_fae (m := x20659.toNat * 8) fa41_0 hA (fun ac hA => ?_) rfl rfl rfl rfl rfl
     obtain ⟨cs, hV, hc24238⟩ := el (hS.rd 1 rfl) h24237
     obtain rfl := hV
     refine x_ld Tryd.underlying3 (hc24238 0 _ rfl) hA (fun ac hA => ?_) rfl rfl rfl rfl rfl rfl
     obtain ⟨x24239, h24240, hF⟩ := ltt_ hF
     refine x_v (v := .int .i64 x24239) hA (rv_i h24240 (r_add rfl (hA.ev rfl) (hA.ev rfl))) rfl fun ac hA => ?_
     refine x_m hA rfl fun ac hA => ?_
     refine wpList_nil ?_
     refine hKx22712 _ _ ?_
     refine hK22711 _ _ ?_
     refine wp_reg ?_
     refine x_m hA rfl fun ac hA => ?_
     obtain ⟨x24241, h24242, hF⟩ := ltt_ hF
     refine x_v (v := .int .i64 x24241) hA (rv_i h24242 (r_add rfl (hA.ev rfl) (hA.ev rfl))) rfl fun ac hA => ?_
     refine x_m hA rfl fun ac hA => ?_
     refine wpList_nil ?_
     cases hF
     exact ⟨_, N22706_ _ rfl, hA.sub _ rfl, hS⟩
    refine wp_draw [0, 1, 3, 3, 3, 27, 59, 127, 255, 511] [7] rfl hA hS (by kernel_rfl) (by kernel_rfl) (by kernel_rfl) (by kernel_rfl) fun w hS => ?_
    refine bcase (b := b24224) (fun hb24243 => ?_) fun hb24243 => ?_
    ·replace hF := ift hb24243 hF
     obtain ⟨x24244, h24245, hF⟩ := bnd hF
     obtain ⟨cs, hV, hc24246⟩ := el (hS.rd 1 rfl) h24245
     obtain rfl := hV
     refine ⟨[(0, .bool b24224), (1, .bool b24224), (2, .agg #[.int .u64 a2.f0, .int .u64 a2.f1, .int .i64 a2.f2, .int .i64 a2.f3]), (3, .slice B179 m180 d181), (4, .int .i64 x20659), (5, .pointer (some (ea B179 (x20659.toNat * 8)))), (6, .agg #[.int .i64 x24244.f0, .int .i64 x24244.f1, .int .u64 x24244.f2, .int .u64 x24244.f3, .int .i64 x24244.f4, .int .i64 x24244.f5, str x24244.f6, str x24244.f7])], ?_⟩
     refine dEff [0, 1, 2, 3, 4, 5, 6] [7] (by kernel_rfl) ⟨pu rfl rfl [(16, .bool b24224)] (fun ac hA => y_move hA rfl rfl) rfl rfl, pu rfl rfl [(137, .bool b24224)] (fun ac hA => y_move hA rfl rfl) rfl rfl, puOn rfl rfl rfl rfl [(5, .pointer (some ⟨g102, 0, none⟩)), (138, .bool b24224)] rfl hb24243 (fun ac hA => y_lda (ad := ⟨g102, 0, none⟩) (cs := [.int .u64 a2.f0, .int .u64 a2.f1, .int .i64 a2.f2, .int .i64 a2.f3]) Tryd.underlying33 sz33 (fun j u h => by rw [add_mk, Nat.zero_add]; exact hS.cell 0 rfl j u h) hA rfl rfl rfl) rfl, puOn rfl rfl rfl rfl [(13, .slice B179 m180 d181), (138, .bool b24224)] rfl hb24243 (fun ac hA => y_move hA rfl rfl) rfl, puOn rfl rfl rfl rfl [(15, .int .i64 x20659), (138, .bool b24224)] rfl hb24243 (fun ac hA => y_move hA rfl rfl) rfl, puOn rfl rfl rfl rfl [(138, .bool b24224), (140, .slice B179 m180 d181), (141, .int .i64 x20659)] rfl hb24243 (fun ac hA => y_ia Tryd.underlying38 sz41 (hS.rd 1 rfl) h24245 hA rfl rfl rfl) rfl, puOn rfl rfl rfl rfl [(138, .bool b24224), (142, .pointer (some (ea B179 (x20659.toNat * 8))))] rfl hb24243 (fun ac hA => y_lda (cs := [.int .i64 x24244.f0, .int .i64 x24244.f1, .int .u64 x24244.f2, .int .u64 x24244.f3, .int .i64 x24244.f4, .int .i64 x24244.f5, str x24244.f6, str x24244.f7]) Tryd.underlying41 sz41 (fun j u h => by rw [ea_add]; exact hc24246 _ _ h) hA rfl rfl rfl) rfl, trivial⟩ (by kernel_rfl) (by kernel_rfl) ⟨efOn rfl rfl rfl [(138, .bool b24224), (139, .agg #[.int .u64 a2.f0, .int .u64 a2.f1, .int .i64 a2.f2, .int .i64 a2.f3]), (143, .agg #[.int .i64 x24244.f0, .int .i64 x24244.f1, .int .u64 x24244.f2, .int .u64 x24244.f3, .int .i64 x24244.f4, .int .i64 x24244.f5, str x24244.f6, str x24244.f7])] rfl hb24243 (fun ac hA K hK => ?_) rfl, trivial⟩
     obtain ⟨y24247, h24248, hF⟩ := bnd hF
     refine z_call en17 hA (F_segment_Filter_May (L := blk g102 33 [.int .u64 a2.f0, .int .u64 a2.f1, .int .i64 a2.f2, .int .i64 a2.f3] :: own k41 41 B179 m180 d181 y177 :: zone Z165 wz166 :: L) a2 x24244 h24248 hS) (fun v w hR => ?_) rfl rfl
     obtain ⟨rfl, hS⟩ := hR
     refine hK _ [(8, .bool (!y24247)), (9, .bool (!y24247))] _ rfl ?_
     refine dEnd [8, 9] (by kernel_rfl) ⟨puOn rfl rfl rfl rfl [(138, .bool b24224), (144, .bool y24247)] rfl hb24243 (fun ac hA => r_not rfl (hA.ev rfl)) rfl, pu rfl rfl [(138, .bool b24224), (145, .bool (!y24247))] (fun ac hA => y_pickt hb24243 hA rfl rfl rfl) rfl rfl, trivial⟩ ⟨by kernel_rfl, by kernel_rfl⟩ [(5, .pointer (some ⟨g102, 0, none⟩)), (8, .slice B133 m134 d135), (13, .slice B179 m180 d181), (14, .int .i64 x20658), (15, .int .i64 x20659), (139, .agg #[.int .u64 a2.f0, .int .u64 a2.f1, .int .i64 a2.f2, .int .i64 a2.f3]), (140, .slice B179 m180 d181), (141, .int .i64 x20659), (143, .agg #[.int .i64 x24244.f0, .int .i64 x24244.f1, .int .u64 x24244.f2, .int .u64 x24244.f3, .int .i64 x24244.f4, .int .i64 x24244.f5, str x24244.f6, str x24244.f7]), (144, .bool y24247), (145, .bool (!y24247)), (146, .bool (!y24247))] rfl (fun ac hA => ?_)
     exact hj2 (!y24247) hF ac w (hA.sub _ rfl) hS
    replace hF := iff' hb24243 hF
    refine ⟨[(0, .bool b24224), (1, .bool b24224), (2, undef), (3, undef), (4, undef), (5, undef), (6, undef)], ?_⟩
    refine dEff [0, 1, 2, 3, 4, 5, 6] [7] (by kernel_rfl) ⟨pu rfl rfl [(16, .bool b24224)] (fun ac hA => y_move hA rfl rfl) rfl rfl, pu rfl rfl [(137, .bool b24224)] (fun ac hA => y_move hA rfl rfl) rfl rfl, puOff rfl rfl rfl rfl [(5, .pointer (some ⟨g102, 0, none⟩)), (138, .bool b24224)] rfl hb24243 rfl, puOff rfl rfl rfl rfl [(13, .slice B179 m180 d181), (138, .bool b24224)] rfl hb24243 rfl, puOff rfl rfl rfl rfl [(15, .int .i64 x20659), (138, .bool b24224)] rfl hb24243 rfl, puOff rfl rfl rfl rfl [(138, .bool b24224), (140, undef), (141, undef)] rfl hb24243 rfl, puOff rfl rfl rfl rfl [(138, .bool b24224), (142, undef)] rfl hb24243 rfl, trivial⟩ (by kernel_rfl) (by kernel_rfl) ⟨?_, trivial⟩
    refine efOff rfl rfl rfl [(138, .bool b24224), (139, undef), (143, undef)] rfl [(8, undef), (9, .bool false)] hb24243 rfl ?_ rfl
    refine dEnd [8, 9] (by kernel_rfl) ⟨puOff rfl rfl rfl rfl [(138, .bool b24224), (144, undef)] rfl hb24243 rfl, pu rfl rfl [(138, .bool b24224), (145, undef)] (fun ac hA => y_pickf hb24243 hA rfl rfl rfl) rfl rfl, trivial⟩ ⟨by kernel_rfl, by kernel_rfl⟩ [(5, .pointer (some ⟨g102, 0, none⟩)), (8, .slice B133 m134 d135), (13, .slice B179 m180 d181), (14, .int .i64 x20658), (15, .int .i64 x20659), (146, .bool false)] rfl (fun ac hA => ?_)
    exact hj2 false hF ac w (hA.sub _ rfl) hS
   obtain ⟨t24581, hl24581, hF⟩ := bnd hF
   have hR24581 := hF
   have hx24581_2 : ∀ (b24581 : Bool), (.inl (b24581)) = t24581 → ∀ (ac : Act) (w : World), FR 158 [] ac [(5, .pointer (some ⟨g102, 0, none⟩)), (8, .slice B133 m134 d135), (13, .slice B179 m180 d181), (14, .int .i64 x20658), (15, .int .i64 x20659), (16, .bool b24581)] → SH r (blk g102 33 [.int .u64 a2.f0, .int .u64 a2.f1, .int .i64 a2.f2, .int .i64 a2.f3] :: own k41 41 B179 m180 d181 y177 :: zone Z165 wz166 :: L) w → Kx23722 ac w := by
    intro b24581 ht ac w hA hS
    subst ht
    replace hF : law07_SegmentChunks_x2_2 a2 y177 x20658 x20659 b24581 = some o22706 := hF
    unfold law07_SegmentChunks_x2_2 at hF
    exact hb2 b24581 hF ac w (hA.sub _ rfl) hS
   refine wp_loop_fn hl24581 (fun s ac w => FR 158 [] ac [(5, .pointer (some ⟨g102, 0, none⟩)), (8, .slice B133 m134 d135), (13, .slice B179 m180 d181), (14, .int .i64 x20658), (15, .int .i64 x20659), (16, .bool s.1), (17, .int .i64 s.2)] ∧ SH r (blk g102 33 [.int .u64 a2.f0, .int .u64 a2.f1, .int .i64 a2.f2, .int .i64 a2.f3] :: own k41 41 B179 m180 d181 y177 :: zone Z165 wz166 :: L) w) ⟨hA.sub _ rfl, hS⟩ ?_
   intro N24581 s24581 o24581 hF N24581_ T24581_ ac w hLab
   obtain ⟨b24410, x24411⟩ := s24581
   replace hF : law07_SegmentChunks_l2 a2 y131 y177 x20658 x20659 b24410 x24411 = some o24581 := hF
   unfold law07_SegmentChunks_l2 at hF
   try dsimp only at hLab
   obtain ⟨hA, hS⟩ := hLab
   refine wp_seq_k fun K24583 hK24583 => ?_
   refine ws fun K24584 hK24584 => ?_
   refine x_m hA rfl fun ac hA => ?_
   refine x_m hA rfl fun ac hA => ?_
   refine x_m hA rfl fun ac hA => ?_
   obtain ⟨x24585, h24586, hF⟩ := bnd hF
   refine x_ia Tryd.underlying38 sz41 (hS.rd 1 rfl) h24586 hA (fun ac hA => ?_) rfl rfl rfl rfl rfl rfl
   refine x_fae (m := x20659.toNat * 8) fa41_0 hA (fun ac hA => ?_) rfl rfl rfl rfl rfl
   obtain ⟨cs, hV, hc24587⟩ := el (hS.rd 1 rfl) h24586
   obtain rfl := hV
   refine x_ld Tryd.underlying3 (hc24587 0 _ rfl) hA (fun ac hA => ?_) rfl rfl rfl rfl rfl rfl
   refine x_v hA (r_ltI rfl (hA.ev rfl) (hA.ev rfl)) rfl fun ac hA => ?_
   refine wn (hK24584 _ _ ?_)
   refine c_if hA rfl (fun hb24588 => ?_) fun hb24588 => ?_
   ·replace hF := ift hb24588 hF
    refine wp_skip ?_
    refine hK24583 _ _ ?_
    refine wp_seq_k fun K24589 hK24589 => ?_
    refine wp_block_k fun Kx24669 hKx24669 => ?_
    have hb3 : ∀ (b24708 : Bool), law07_SegmentChunks_b3 x24411 b24708 = some o24581 → ∀ (ac : Act) (w : World), FR 158 [] ac [(5, .pointer (some ⟨g102, 0, none⟩)), (8, .slice B133 m134 d135), (13, .slice B179 m180 d181), (14, .int .i64 x20658), (15, .int .i64 x20659), (16, .bool b24708), (17, .int .i64 x24411)] → SH r (blk g102 33 [.int .u64 a2.f0, .int .u64 a2.f1, .int .i64 a2.f2, .int .i64 a2.f3] :: own k41 41 B179 m180 d181 y177 :: zone Z165 wz166 :: L) w → Kx24669 ac w := by
     intro b24708 hF ac w hA hS
     unfold law07_SegmentChunks_b3 at hF
     refine hKx24669 _ _ ?_
     refine hK24589 _ _ ?_
     refine wp_reg ?_
     refine x_m hA rfl fun ac hA => ?_
     obtain ⟨x24709, h24710, hF⟩ := ltt_ hF
     refine x_v (v := .int .i64 x24709) hA (rv_i h24710 (r_add rfl (hA.ev rfl) (hA.ev rfl))) rfl fun ac hA => ?_
     refine x_m hA rfl fun ac hA => ?_
     refine wpList_nil ?_
     cases hF
     exact ⟨_, N24581_ _ rfl, hA.sub _ rfl, hS⟩
    refine ws fun K24711 hK24711 => ?_
    refine x_m hA rfl fun ac hA => ?_
    refine x_m hA rfl fun ac hA => ?_
    refine x_m hA rfl fun ac hA => ?_
    obtain ⟨x24712, h24713, hF⟩ := ltt_ hF
    refine x_v (v := .int .i64 x24712) hA (rv_i h24713 (r_add rfl (hA.ev rfl) (hA.ev rfl))) rfl fun ac hA => ?_
    obtain ⟨x24714, h24715, hF⟩ := bnd hF
    refine x_ia Tryd.underlying22 sz44 (hS.imm 2 h170 rfl) h24715 hA (fun ac hA => ?_) rfl rfl rfl rfl rfl rfl
    obtain ⟨cs, hV, hc24716⟩ := el (hS.imm 2 h170 rfl) h24715
    obtain rfl := hV
    refine x_lda (cs := [.int .u64 x24714.f0, .int .i64 x24714.f1, .int .i64 x24714.f2, str x24714.f3, .float .f64 x24714.f4]) Tryd.underlying44 sz44 (fun j u h => by rw [ea_add]; exact hc24716 _ _ h) hA (fun ac hA => ?_) rfl rfl rfl rfl rfl rfl
    refine x_alloc (cs := [.int .u64 0, .int .i64 0, .int .i64 0, str [], .float .f64 0]) zr44 hA hS (fun g24717 ac w hS hA => ?_) rfl rfl rfl rfl rfl
    refine x_stb 0 sz44 hA hS rfl (fun  ac w hS hA => ?_) rfl rfl rfl rfl rfl rfl rfl rfl
    refine wn (hK24711 _ _ ?_)
    refine wp_seq_k fun K24718 hK24718 => ?_
    refine wp_seq_k fun K24719 hK24719 => ?_
    have hj3 : ∀ (b24731 : Bool), law07_SegmentChunks_j3 a2 b24410 x24411 x24714 b24731 = some o24581 → ∀ (ac : Act) (w : World), FR 158 [] ac [(5, .pointer (some ⟨g102, 0, none⟩)), (8, .slice B133 m134 d135), (13, .slice B179 m180 d181), (14, .int .i64 x20658), (15, .int .i64 x20659), (16, .bool b24410), (17, .int .i64 x24411), (18, .pointer (some ⟨g24717, 0, none⟩)), (130, .bool b24731)] → SH r (blk g102 33 [.int .u64 a2.f0, .int .u64 a2.f1, .int .i64 a2.f2, .int .i64 a2.f3] :: blk g24717 44 [.int .u64 x24714.f0, .int .i64 x24714.f1, .int .i64 x24714.f2, str x24714.f3, .float .f64 x24714.f4] :: own k41 41 B179 m180 d181 y177 :: zone Z165 wz166 :: L) w → K24719 ac w := by
     intro b24731 hF ac w hA hS
     unfold law07_SegmentChunks_j3 at hF
     refine hK24719 _ _ ?_
     refine c_if hA rfl (fun hb24732 => ?_) fun hb24732 => ?_
     ·replace hF := ift hb24732 hF
      refine ws fun K24733 hK24733 => ?_
      refine x_m hA rfl fun ac hA => ?_
      refine wn (hK24733 _ _ ?_)
      refine wp_ret ?_
      replace hS := hS.drop 0
      replace hS := hS.drop 0
      replace hS := hS.drop 0
      cases hF
      have ht := T24581_ _ rfl
      subst ht
      replace hF := hR24581
      replace hF : some (.inr (.inr false)) = some o22706 := hF
      cases hF
      have ht := T22706_ _ rfl
      subst ht
      replace hF := hR22706
      replace hF : some false = some y := hF
      cases hF
      refine hQ _ _ ?_
      refine lv Tryd.results4 hA rfl ?_
      exact ⟨Z165, wz166, rfl, (Sub.trans (Sub.trans (Sub.trans (Sub.trans h114 sb144) h153) sb160) h168), hS⟩
     replace hF := iff' hb24732 hF
     refine wp_skip ?_
     refine hK24718 _ _ ?_
     refine wp_reg ?_
     refine x_m hA rfl fun ac hA => ?_
     refine x_m hA rfl fun ac hA => ?_
     refine bcase (b := b24410) (fun hb24734 => ?_) fun hb24734 => ?_
     ·replace hF := ift hb24734 hF
      refine x_off hb24734 hA (fun ac hA => ?_) rfl rfl rfl rfl rfl
      refine x_off hb24734 hA (fun ac hA => ?_) rfl rfl rfl rfl rfl
      refine x_off hb24734 hA (fun ac hA => ?_) rfl rfl rfl rfl rfl
      refine x_pickt hb24734 hA (fun ac hA => ?_) rfl rfl rfl rfl rfl rfl
      refine x_m hA rfl fun ac hA => ?_
      refine wpList_nil ?_
      replace hS := hS.drop 1
      exact hb3 true hF ac w (hA.sub _ rfl) hS
     replace hF := iff' hb24734 hF
     refine x_on hb24734 hA ?_ rfl rfl rfl
     refine x_lda (ad := ⟨g102, 0, none⟩) (cs := [.int .u64 a2.f0, .int .u64 a2.f1, .int .i64 a2.f2, .int .i64 a2.f3]) Tryd.underlying33 sz33 (fun j u h => by rw [add_mk, Nat.zero_add]; exact hS.cell 0 rfl j u h) hA (fun ac hA => ?_) rfl rfl rfl rfl rfl rfl
     refine x_on hb24734 hA ?_ rfl rfl rfl
     refine x_lda (ad := ⟨g24717, 0, none⟩) (cs := [.int .u64 x24714.f0, .int .i64 x24714.f1, .int .i64 x24714.f2, str x24714.f3, .float .f64 x24714.f4]) Tryd.underlying44 sz44 (fun j u h => by rw [add_mk, Nat.zero_add]; exact hS.cell 1 rfl j u h) hA (fun ac hA => ?_) rfl rfl rfl rfl rfl rfl
     refine x_on hb24734 hA ?_ rfl rfl rfl
     obtain ⟨y24735, h24736, hF⟩ := bnd hF
     refine x_call en16 hA (F_segment_Filter_Wants (L := blk g102 33 [.int .u64 a2.f0, .int .u64 a2.f1, .int .i64 a2.f2, .int .i64 a2.f3] :: blk g24717 44 [.int .u64 x24714.f0, .int .i64 x24714.f1, .int .i64 x24714.f2, str x24714.f3, .float .f64 x24714.f4] :: own k41 41 B179 m180 d181 y177 :: zone Z165 wz166 :: L) a2 x24714 h24736 hS) (fun v ac w hR hA => ?_) rfl rfl rfl rfl rfl
     obtain ⟨rfl, hS⟩ := hR
     refine x_pickf hb24734 hA (fun ac hA => ?_) rfl rfl rfl rfl rfl rfl
     refine x_m hA rfl fun ac hA => ?_
     refine wpList_nil ?_
     replace hS := hS.drop 1
     exact hb3 y24735 hF ac w (hA.sub _ rfl) hS
    refine wp_draw [0, 1, 0, 0, 12, 28, 60, 127, 255, 511, 1023, 511, 511, 6655, 14847, 31231, 65535, 131071, 262143, 524287, 1048575, 524287, 524287, 6815743, 15204351, 31981567, 67108863, 134217727, 268435455, 536870911, 1073741823, 536870911, 536870911, 6979321855, 15569256447, 32749125631, 68719476735, 137438953471, 274877906943, 549755813887, 1099511627775, 549755813887, 549755813887, 7146825580543, 15942918602751, 33535104647167, 70368744177663, 140737488355327, 281474976710655, 562949953421311, 1125899906842623, 562949953421311, 562949953421311, 7318349394477055, 16325548649218047, 34339947158700031, 72057594037927935, 144115188075855871] [] rfl hA hS (by kernel_rfl) (by kernel_rfl) (by kernel_rfl) (by kernel_rfl) fun w hS => ?_
    obtain ⟨cs, hV, hc24737⟩ := el (hS.rd 2 rfl) h24586
    obtain rfl := hV
    refine bcase (b := decide (x24714.f0 < x24585.f2)) (fun hb24738 => ?_) fun hb24738 => ?_
    ·replace hF := ift hb24738 hF
     refine ⟨[(0, .pointer (some ⟨g24717, 0, none⟩)), (1, .int .u64 x24714.f0), (2, .slice B179 m180 d181), (3, .int .i64 x20659), (4, .pointer (some (ea B179 (x20659.toNat * 8)))), (5, .pointer (some (ea B179 (x20659.toNat * 8 + 2)))), (6, .int .u64 x24585.f2), (7, .bool (decide (x24714.f0 < x24585.f2))), (8, .bool (decide (x24714.f0 < x24585.f2))), (9, undef), (10, undef), (11, undef), (12, undef), (13, undef), (14, undef), (15, undef), (16, undef), (17, .bool true), (18, .bool true), (19, undef), (20, undef), (21, undef), (22, undef), (23, undef), (24, undef), (25, undef), (26, undef), (27, .bool true), (28, .bool true), (29, undef), (30, undef), (31, undef), (32, undef), (33, undef), (34, undef), (35, undef), (36, undef), (37, .bool true), (38, .bool true), (39, undef), (40, undef), (41, undef), (42, undef), (43, undef), (44, undef), (45, undef), (46, undef), (47, .bool true), (48, .bool true), (49, undef), (50, undef), (51, undef), (52, undef), (53, undef), (54, undef), (55, undef), (56, undef), (57, .bool true)], ?_⟩
     refine dEnd [0, 1, 2, 3, 4, 5, 6, 7, 8, 9, 10, 11, 12, 13, 14, 15, 16, 17, 18, 19, 20, 21, 22, 23, 24, 25, 26, 27, 28, 29, 30, 31, 32, 33, 34, 35, 36, 37, 38, 39, 40, 41, 42, 43, 44, 45, 46, 47, 48, 49, 50, 51, 52, 53, 54, 55, 56, 57] (by kernel_rfl) ⟨pu rfl rfl [(18, .pointer (some ⟨g24717, 0, none⟩))] (fun ac hA => y_fab fa44_0 hA rfl rfl) rfl rfl, pu rfl rfl [(73, .pointer (some ⟨g24717, 0, none⟩))] (fun ac hA => y_ld Tryd.underlying31 (hS.cell 0 rfl 0 _ rfl) hA rfl rfl rfl) rfl rfl, pu rfl rfl [(13, .slice B179 m180 d181)] (fun ac hA => y_move hA rfl rfl) rfl rfl, pu rfl rfl [(15, .int .i64 x20659)] (fun ac hA => y_move hA rfl rfl) rfl rfl, pu rfl rfl [(75, .slice B179 m180 d181), (76, .int .i64 x20659)] (fun ac hA => y_ia Tryd.underlying38 sz41 (hS.rd 2 rfl) h24586 hA rfl rfl rfl) rfl rfl, pu rfl rfl [(77, .pointer (some (ea B179 (x20659.toNat * 8))))] (fun ac hA => y_fae (m := x20659.toNat * 8) fa41_2 hA rfl rfl) rfl rfl, pu rfl rfl [(78, .pointer (some (ea B179 (x20659.toNat * 8 + 2))))] (fun ac hA => y_ld Tryd.underlying31 (hc24737 2 _ rfl) hA rfl rfl rfl) rfl rfl, pu rfl rfl [(74, .int .u64 x24714.f0), (79, .int .u64 x24585.f2)] (fun ac hA => r_ltI rfl (hA.ev rfl) (hA.ev rfl)) rfl rfl, pu rfl rfl [(80, .bool (decide (x24714.f0 < x24585.f2)))] (fun ac hA => y_move hA rfl rfl) rfl rfl, puOff rfl rfl rfl rfl [(18, .pointer (some ⟨g24717, 0, none⟩)), (81, .bool (decide (x24714.f0 < x24585.f2)))] rfl hb24738 rfl, puOff rfl rfl rfl rfl [(81, .bool (decide (x24714.f0 < x24585.f2))), (82, undef)] rfl hb24738 rfl, puOff rfl rfl rfl rfl [(13, .slice B179 m180 d181), (81, .bool (decide (x24714.f0 < x24585.f2)))] rfl hb24738 rfl, puOff rfl rfl rfl rfl [(15, .int .i64 x20659), (81, .bool (decide (x24714.f0 < x24585.f2)))] rfl hb24738 rfl, puOff rfl rfl rfl rfl [(81, .bool (decide (x24714.f0 < x24585.f2))), (84, undef), (85, undef)] rfl hb24738 rfl, puOff rfl rfl rfl rfl [(81, .bool (decide (x24714.f0 < x24585.f2))), (86, undef)] rfl hb24738 rfl, puOff rfl rfl rfl rfl [(81, .bool (decide (x24714.f0 < x24585.f2))), (87, undef)] rfl hb24738 rfl, puOff rfl rfl rfl rfl [(81, .bool (decide (x24714.f0 < x24585.f2))), (83, undef), (88, undef)] rfl hb24738 rfl, pu rfl rfl [(81, .bool (decide (x24714.f0 < x24585.f2))), (89, undef)] (fun ac hA => y_pickt hb24738 hA rfl rfl rfl) rfl rfl, pu rfl rfl [(90, .bool true)] (fun ac hA => y_move hA rfl rfl) rfl rfl, puOff rfl rfl rfl rfl [(18, .pointer (some ⟨g24717, 0, none⟩)), (91, .bool true)] rfl rfl rfl, puOff rfl rfl rfl rfl [(91, .bool true), (92, undef)] rfl rfl rfl, puOff rfl rfl rfl rfl [(13, .slice B179 m180 d181), (91, .bool true)] rfl rfl rfl, puOff rfl rfl rfl rfl [(15, .int .i64 x20659), (91, .bool true)] rfl rfl rfl, puOff rfl rfl rfl rfl [(91, .bool true), (94, undef), (95, undef)] rfl rfl rfl, puOff rfl rfl rfl rfl [(91, .bool true), (96, undef)] rfl rfl rfl, puOff rfl rfl rfl rfl [(91, .bool true), (97, undef)] rfl rfl rfl, puOff rfl rfl rfl rfl [(91, .bool true), (93, undef), (98, undef)] rfl rfl rfl, pu rfl rfl [(91, .bool true), (99, undef)] (fun ac hA => y_pickt rfl hA rfl rfl rfl) rfl rfl, pu rfl rfl [(100, .bool true)] (fun ac hA => y_move hA rfl rfl) rfl rfl, puOff rfl rfl rfl rfl [(18, .pointer (some ⟨g24717, 0, none⟩)), (101, .bool true)] rfl rfl rfl, puOff rfl rfl rfl rfl [(101, .bool true), (102, undef)] rfl rfl rfl, puOff rfl rfl rfl rfl [(13, .slice B179 m180 d181), (101, .bool true)] rfl rfl rfl, puOff rfl rfl rfl rfl [(15, .int .i64 x20659), (101, .bool true)] rfl rfl rfl, puOff rfl rfl rfl rfl [(101, .bool true), (104, undef), (105, undef)] rfl rfl rfl, puOff rfl rfl rfl rfl [(101, .bool true), (106, undef)] rfl rfl rfl, puOff rfl rfl rfl rfl [(101, .bool true), (107, undef)] rfl rfl rfl, puOff rfl rfl rfl rfl [(101, .bool true), (103, undef), (108, undef)] rfl rfl rfl, pu rfl rfl [(101, .bool true), (109, undef)] (fun ac hA => y_pickt rfl hA rfl rfl rfl) rfl rfl, pu rfl rfl [(110, .bool true)] (fun ac hA => y_move hA rfl rfl) rfl rfl, puOff rfl rfl rfl rfl [(18, .pointer (some ⟨g24717, 0, none⟩)), (111, .bool true)] rfl rfl rfl, puOff rfl rfl rfl rfl [(111, .bool true), (112, undef)] rfl rfl rfl, puOff rfl rfl rfl rfl [(13, .slice B179 m180 d181), (111, .bool true)] rfl rfl rfl, puOff rfl rfl rfl rfl [(15, .int .i64 x20659), (111, .bool true)] rfl rfl rfl, puOff rfl rfl rfl rfl [(111, .bool true), (114, undef), (115, undef)] rfl rfl rfl, puOff rfl rfl rfl rfl [(111, .bool true), (116, undef)] rfl rfl rfl, puOff rfl rfl rfl rfl [(111, .bool true), (117, undef)] rfl rfl rfl, puOff rfl rfl rfl rfl [(111, .bool true), (113, undef), (118, undef)] rfl rfl rfl, pu rfl rfl [(111, .bool true), (119, undef)] (fun ac hA => y_pickt rfl hA rfl rfl rfl) rfl rfl, pu rfl rfl [(120, .bool true)] (fun ac hA => y_move hA rfl rfl) rfl rfl, puOff rfl rfl rfl rfl [(18, .pointer (some ⟨g24717, 0, none⟩)), (121, .bool true)] rfl rfl rfl, puOff rfl rfl rfl rfl [(121, .bool true), (122, undef)] rfl rfl rfl, puOff rfl rfl rfl rfl [(13, .slice B179 m180 d181), (121, .bool true)] rfl rfl rfl, puOff rfl rfl rfl rfl [(15, .int .i64 x20659), (121, .bool true)] rfl rfl rfl, puOff rfl rfl rfl rfl [(121, .bool true), (124, undef), (125, undef)] rfl rfl rfl, puOff rfl rfl rfl rfl [(121, .bool true), (126, undef)] rfl rfl rfl, puOff rfl rfl rfl rfl [(121, .bool true), (127, undef)] rfl rfl rfl, puOff rfl rfl rfl rfl [(121, .bool true), (123, undef), (128, undef)] rfl rfl rfl, pu rfl rfl [(121, .bool true), (129, undef)] (fun ac hA => y_pickt rfl hA rfl rfl rfl) rfl rfl, trivial⟩ ⟨by kernel_rfl, by kernel_rfl⟩ [(5, .pointer (some ⟨g102, 0, none⟩)), (8, .slice B133 m134 d135), (13, .slice B179 m180 d181), (14, .int .i64 x20658), (15, .int .i64 x20659), (16, .bool b24410), (17, .int .i64 x24411), (18, .pointer (some ⟨g24717, 0, none⟩)), (130, .bool true)] rfl (fun ac hA => ?_)
     replace hS := hS.pk 3
     replace hS := hS.pk 3
     replace hS := hS.pk 2
     replace hS := hS.pk 3
     exact hj3 true hF ac w (hA.sub _ rfl) hS
    replace hF := iff' hb24738 hF
    obtain ⟨cs, hV, hc24739⟩ := el (hS.rd 2 rfl) h24586
    obtain rfl := hV
    refine bcase (b := decide (x24585.f3 < x24714.f0)) (fun hb24740 => ?_) fun hb24740 => ?_
    ·replace hF := ift hb24740 hF
     refine ⟨[(0, .pointer (some ⟨g24717, 0, none⟩)), (1, .int .u64 x24714.f0), (2, .slice B179 m180 d181), (3, .int .i64 x20659), (4, .pointer (some (ea B179 (x20659.toNat * 8)))), (5, .pointer (some (ea B179 (x20659.toNat * 8 + 2)))), (6, .int .u64 x24585.f2), (7, .bool (decide (x24714.f0 < x24585.f2))), (8, .bool (decide (x24714.f0 < x24585.f2))), (9, .pointer (some ⟨g24717, 0, none⟩)), (10, .int .u64 x24714.f0), (11, .slice B179 m180 d181), (12, .int .i64 x20659), (13, .pointer (some (ea B179 (x20659.toNat * 8)))), (14, .pointer (some (ea B179 (x20659.toNat * 8 + 3)))), (15, .int .u64 x24585.f3), (16, .bool (decide (x24585.f3 < x24714.f0))), (17, .bool (decide (x24585.f3 < x24714.f0))), (18, .bool (decide (x24585.f3 < x24714.f0))), (19, undef), (20, undef), (21, undef), (22, undef), (23, undef), (24, undef), (25, undef), (26, undef), (27, .bool true), (28, .bool true), (29, undef), (30, undef), (31, undef), (32, undef), (33, undef), (34, undef), (35, undef), (36, undef), (37, .bool true), (38, .bool true), (39, undef), (40, undef), (41, undef), (42, undef), (43, undef), (44, undef), (45, undef), (46, undef), (47, .bool true), (48, .bool true), (49, undef), (50, undef), (51, undef), (52, undef), (53, undef), (54, undef), (55, undef), (56, undef), (57, .bool true)], ?_⟩
     refine dEnd [0, 1, 2, 3, 4, 5, 6, 7, 8, 9, 10, 11, 12, 13, 14, 15, 16, 17, 18, 19, 20, 21, 22, 23, 24, 25, 26, 27, 28, 29, 30, 31, 32, 33, 34, 35, 36, 37, 38, 39, 40, 41, 42, 43, 44, 45, 46, 47, 48, 49, 50, 51, 52, 53, 54, 55, 56, 57] (by kernel_rfl) ⟨pu rfl rfl [(18, .pointer (some ⟨g24717, 0, none⟩))] (fun ac hA => y_fab fa44_0 hA rfl rfl) rfl rfl, pu rfl rfl [(73, .pointer (some ⟨g24717, 0, none⟩))] (fun ac hA => y_ld Tryd.underlying31 (hS.cell 0 rfl 0 _ rfl) hA rfl rfl rfl) rfl rfl, pu rfl rfl [(13, .slice B179 m180 d181)] (fun ac hA => y_move hA rfl rfl) rfl rfl, pu rfl rfl [(15, .int .i64 x20659)] (fun ac hA => y_move hA rfl rfl) rfl rfl, pu rfl rfl [(75, .slice B179 m180 d181), (76, .int .i64 x20659)] (fun ac hA => y_ia Tryd.underlying38 sz41 (hS.rd 2 rfl) h24586 hA rfl rfl rfl) rfl rfl, pu rfl rfl [(77, .pointer (some (ea B179 (x20659.toNat * 8))))] (fun ac hA => y_fae (m := x20659.toNat * 8) fa41_2 hA rfl rfl) rfl rfl, pu rfl rfl [(78, .pointer (some (ea B179 (x20659.toNat * 8 + 2))))] (fun ac hA => y_ld Tryd.underlying31 (hc24737 2 _ rfl) hA rfl rfl rfl) rfl rfl, pu rfl rfl [(74, .int .u64 x24714.f0), (79, .int .u64 x24585.f2)] (fun ac hA => r_ltI rfl (hA.ev rfl) (hA.ev rfl)) rfl rfl, pu rfl rfl [(80, .bool (decide (x24714.f0 < x24585.f2)))] (fun ac hA => y_move hA rfl rfl) rfl rfl, puOn rfl rfl rfl rfl [(18, .pointer (some ⟨g24717, 0, none⟩)), (81, .bool (decide (x24714.f0 < x24585.f2)))] rfl hb24738 (fun ac hA => y_fab fa44_0 hA rfl rfl) rfl, puOn rfl rfl rfl rfl [(81, .bool (decide (x24714.f0 < x24585.f2))), (82, .pointer (some ⟨g24717, 0, none⟩))] rfl hb24738 (fun ac hA => y_ld Tryd.underlying31 (hS.cell 0 rfl 0 _ rfl) hA rfl rfl rfl) rfl, puOn rfl rfl rfl rfl [(13, .slice B179 m180 d181), (81, .bool (decide (x24714.f0 < x24585.f2)))] rfl hb24738 (fun ac hA => y_move hA rfl rfl) rfl, puOn rfl rfl rfl rfl [(15, .int .i64 x20659), (81, .bool (decide (x24714.f0 < x24585.f2)))] rfl hb24738 (fun ac hA => y_move hA rfl rfl) rfl, puOn rfl rfl rfl rfl [(81, .bool (decide (x24714.f0 < x24585.f2))), (84, .slice B179 m180 d181), (85, .int .i64 x20659)] rfl hb24738 (fun ac hA => y_ia Tryd.underlying38 sz41 (hS.rd 2 rfl) h24586 hA rfl rfl rfl) rfl, puOn rfl rfl rfl rfl [(81, .bool (decide (x24714.f0 < x24585.f2))), (86, .pointer (some (ea B179 (x20659.toNat * 8))))] rfl hb24738 (fun ac hA => y_fae (m := x20659.toNat * 8) fa41_3 hA rfl rfl) rfl, puOn rfl rfl rfl rfl [(81, .bool (decide (x24714.f0 < x24585.f2))), (87, .pointer (some (ea B179 (x20659.toNat * 8 + 3))))] rfl hb24738 (fun ac hA => y_ld Tryd.underlying31 (hc24739 3 _ rfl) hA rfl rfl rfl) rfl, puOn rfl rfl rfl rfl [(81, .bool (decide (x24714.f0 < x24585.f2))), (83, .int .u64 x24714.f0), (88, .int .u64 x24585.f3)] rfl hb24738 (fun ac hA => r_gtI rfl (hA.ev rfl) (hA.ev rfl)) rfl, pu rfl rfl [(81, .bool (decide (x24714.f0 < x24585.f2))), (89, .bool (decide (x24585.f3 < x24714.f0)))] (fun ac hA => y_pickf hb24738 hA rfl rfl rfl) rfl rfl, pu rfl rfl [(90, .bool (decide (x24585.f3 < x24714.f0)))] (fun ac hA => y_move hA rfl rfl) rfl rfl, puOff rfl rfl rfl rfl [(18, .pointer (some ⟨g24717, 0, none⟩)), (91, .bool (decide (x24585.f3 < x24714.f0)))] rfl hb24740 rfl, puOff rfl rfl rfl rfl [(91, .bool (decide (x24585.f3 < x24714.f0))), (92, undef)] rfl hb24740 rfl, puOff rfl rfl rfl rfl [(13, .slice B179 m180 d181), (91, .bool (decide (x24585.f3 < x24714.f0)))] rfl hb24740 rfl, puOff rfl rfl rfl rfl [(15, .int .i64 x20659), (91, .bool (decide (x24585.f3 < x24714.f0)))] rfl hb24740 rfl, puOff rfl rfl rfl rfl [(91, .bool (decide (x24585.f3 < x24714.f0))), (94, undef), (95, undef)] rfl hb24740 rfl, puOff rfl rfl rfl rfl [(91, .bool (decide (x24585.f3 < x24714.f0))), (96, undef)] rfl hb24740 rfl, puOff rfl rfl rfl rfl [(91, .bool (decide (x24585.f3 < x24714.f0))), (97, undef)] rfl hb24740 rfl, puOff rfl rfl rfl rfl [(91, .bool (decide (x24585.f3 < x24714.f0))), (93, undef), (98, undef)] rfl hb24740 rfl, pu rfl rfl [(91, .bool (decide (x24585.f3 < x24714.f0))), (99, undef)] (fun ac hA => y_pickt hb24740 hA rfl rfl rfl) rfl rfl, pu rfl rfl [(100, .bool true)] (fun ac hA => y_move hA rfl rfl) rfl rfl, puOff rfl rfl rfl rfl [(18, .pointer (some ⟨g24717, 0, none⟩)), (101, .bool true)] rfl rfl rfl, puOff rfl rfl rfl rfl [(101, .bool true), (102, undef)] rfl rfl rfl, puOff rfl rfl rfl rfl [(13, .slice B179 m180 d181), (101, .bool true)] rfl rfl rfl, puOff rfl rfl rfl rfl [(15, .int .i64 x20659), (101, .bool true)] rfl rfl rfl, puOff rfl rfl rfl rfl [(101, .bool true), (104, undef), (105, undef)] rfl rfl rfl, puOff rfl rfl rfl rfl [(101, .bool true), (106, undef)] rfl rfl rfl, puOff rfl rfl rfl rfl [(101, .bool true), (107, undef)] rfl rfl rfl, puOff rfl rfl rfl rfl [(101, .bool true), (103, undef), (108, undef)] rfl rfl rfl, pu rfl rfl [(101, .bool true), (109, undef)] (fun ac hA => y_pickt rfl hA rfl rfl rfl) rfl rfl, pu rfl rfl [(110, .bool true)] (fun ac hA => y_move hA rfl rfl) rfl rfl, puOff rfl rfl rfl rfl [(18, .pointer (some ⟨g24717, 0, none⟩)), (111, .bool true)] rfl rfl rfl, puOff rfl rfl rfl rfl [(111, .bool true), (112, undef)] rfl rfl rfl, puOff rfl rfl rfl rfl [(13, .slice B179 m180 d181), (111, .bool true)] rfl rfl rfl, puOff rfl rfl rfl rfl [(15, .int .i64 x20659), (111, .bool true)] rfl rfl rfl, puOff rfl rfl rfl rfl [(111, .bool true), (114, undef), (115, undef)] rfl rfl rfl, puOff rfl rfl rfl rfl [(111, .bool true), (116, undef)] rfl rfl rfl, puOff rfl rfl rfl rfl [(111, .bool true), (117, undef)] rfl rfl rfl, puOff rfl rfl rfl rfl [(111, .bool true), (113, undef), (118, undef)] rfl rfl rfl, pu rfl rfl [(111, .bool true), (119, undef)] (fun ac hA => y_pickt rfl hA rfl rfl rfl) rfl rfl, pu rfl rfl [(120, .bool true)] (fun ac hA => y_move hA rfl rfl) rfl rfl, puOff rfl rfl rfl rfl [(18, .pointer (some ⟨g24717, 0, none⟩)), (121, .bool true)] rfl rfl rfl, puOff rfl rfl rfl rfl [(121, .bool true), (122, undef)] rfl rfl rfl, puOff rfl rfl rfl rfl [(13, .slice B179 m180 d181), (121, .bool true)] rfl rfl rfl, puOff rfl rfl rfl rfl [(15, .int .i64 x20659), (121, .bool true)] rfl rfl rfl, puOff rfl rfl rfl rfl [(121, .bool true), (124, undef), (125, undef)] rfl rfl rfl, puOff rfl rfl rfl rfl [(121, .bool true), (126, undef)] rfl rfl rfl, puOff rfl rfl rfl rfl [(121, .bool true), (127, undef)] rfl rfl rfl, puOff rfl rfl rfl rfl [(121, .bool true), (123, undef), (128, undef)] rfl rfl rfl, pu rfl rfl [(121, .bool true), (129, undef)] (fun ac hA => y_pickt rfl hA rfl rfl rfl) rfl rfl, trivial⟩ ⟨by kernel_rfl, by kernel_rfl⟩ [(5, .pointer (some ⟨g102, 0, none⟩)), (8, .slice B133 m134 d135), (13, .slice B179 m180 d181), (14, .int .i64 x20658), (15, .int .i64 x20659), (16, .bool b24410), (17, .int .i64 x24411), (18, .pointer (some ⟨g24717, 0, none⟩)), (82, .pointer (some ⟨g24717, 0, none⟩)), (83, .int .u64 x24714.f0), (84, .slice B179 m180 d181), (85, .int .i64 x20659), (88, .int .u64 x24585.f3), (89, .bool (decide (x24585.f3 < x24714.f0))), (130, .bool true)] rfl (fun ac hA => ?_)
     replace hS := hS.pk 3
     replace hS := hS.pk 3
     replace hS := hS.pk 2
     replace hS := hS.pk 3
     exact hj3 true hF ac w (hA.sub _ rfl) hS
    replace hF := iff' hb24740 hF
    obtain ⟨cs, hV, hc24741⟩ := el (hS.rd 2 rfl) h24586
    obtain rfl := hV
    refine bcase (b := decide (x24714.f2 < x24585.f4)) (fun hb24742 => ?_) fun hb24742 => ?_
    ·replace hF := ift hb24742 hF
     refine ⟨[(0, .pointer (some ⟨g24717, 0, none⟩)), (1, .int .u64 x24714.f0), (2, .slice B179 m180 d181), (3, .int .i64 x20659), (4, .pointer (some (ea B179 (x20659.toNat * 8)))), (5, .pointer (some (ea B179 (x20659.toNat * 8 + 2)))), (6, .int .u64 x24585.f2), (7, .bool (decide (x24714.f0 < x24585.f2))), (8, .bool (decide (x24714.f0 < x24585.f2))), (9, .pointer (some ⟨g24717, 0, none⟩)), (10, .int .u64 x24714.f0), (11, .slice B179 m180 d181), (12, .int .i64 x20659), (13, .pointer (some (ea B179 (x20659.toNat * 8)))), (14, .pointer (some (ea B179 (x20659.toNat * 8 + 3)))), (15, .int .u64 x24585.f3), (16, .bool (decide (x24585.f3 < x24714.f0))), (17, .bool (decide (x24585.f3 < x24714.f0))), (18, .bool (decide (x24585.f3 < x24714.f0))), (19, .pointer (some ⟨g24717, 2, none⟩)), (20, .int .i64 x24714.f2), (21, .slice B179 m180 d181), (22, .int .i64 x20659), (23, .pointer (some (ea B179 (x20659.toNat * 8)))), (24, .pointer (some (ea B179 (x20659.toNat * 8 + 4)))), (25, .int .i64 x24585.f4), (26, .bool (decide (x24714.f2 < x24585.f4))), (27, .bool (decide (x24714.f2 < x24585.f4))), (28, .bool (decide (x24714.f2 < x24585.f4))), (29, undef), (30, undef), (31, undef), (32, undef), (33, undef), (34, undef), (35, undef), (36, undef), (37, .bool true), (38, .bool true), (39, undef), (40, undef), (41, undef), (42, undef), (43, undef), (44, undef), (45, undef), (46, undef), (47, .bool true), (48, .bool true), (49, undef), (50, undef), (51, undef), (52, undef), (53, undef), (54, undef), (55, undef), (56, undef), (57, .bool true)], ?_⟩
     refine dEnd [0, 1, 2, 3, 4, 5, 6, 7, 8, 9, 10, 11, 12, 13, 14, 15, 16, 17, 18, 19, 20, 21, 22, 23, 24, 25, 26, 27, 28, 29, 30, 31, 32, 33, 34, 35, 36, 37, 38, 39, 40, 41, 42, 43, 44, 45, 46, 47, 48, 49, 50, 51, 52, 53, 54, 55, 56, 57] (by kernel_rfl) ⟨pu rfl rfl [(18, .pointer (some ⟨g24717, 0, none⟩))] (fun ac hA => y_fab fa44_0 hA rfl rfl) rfl rfl, pu rfl rfl [(73, .pointer (some ⟨g24717, 0, none⟩))] (fun ac hA => y_ld Tryd.underlying31 (hS.cell 0 rfl 0 _ rfl) hA rfl rfl rfl) rfl rfl, pu rfl rfl [(13, .slice B179 m180 d181)] (fun ac hA => y_move hA rfl rfl) rfl rfl, pu rfl rfl [(15, .int .i64 x20659)] (fun ac hA => y_move hA rfl rfl) rfl rfl, pu rfl rfl [(75, .slice B179 m180 d181), (76, .int .i64 x20659)] (fun ac hA => y_ia Tryd.underlying38 sz41 (hS.rd 2 rfl) h24586 hA rfl rfl rfl) rfl rfl, pu rfl rfl [(77, .pointer (some (ea B179 (x20659.toNat * 8))))] (fun ac hA => y_fae (m := x20659.toNat * 8) fa41_2 hA rfl rfl) rfl rfl, pu rfl rfl [(78, .pointer (some (ea B179 (x20659.toNat * 8 + 2))))] (fun ac hA => y_ld Tryd.underlying31 (hc24737 2 _ rfl) hA rfl rfl rfl) rfl rfl, pu rfl rfl [(74, .int .u64 x24714.f0), (79, .int .u64 x24585.f2)] (fun ac hA => r_ltI rfl (hA.ev rfl) (hA.ev rfl)) rfl rfl, pu rfl rfl [(80, .bool (decide (x24714.f0 < x24585.f2)))] (fun ac hA => y_move hA rfl rfl) rfl rfl, puOn rfl rfl rfl rfl [(18, .pointer (some ⟨g24717, 0, none⟩)), (81, .bool (decide (x24714.f0 < x24585.f2)))] rfl hb24738 (fun ac hA => y_fab fa44_0 hA rfl rfl) rfl, puOn rfl rfl rfl rfl [(81, .bool (decide (x24714.f0 < x24585.f2))), (82, .pointer (some ⟨g24717, 0, none⟩))] rfl hb24738 (fun ac hA => y_ld Tryd.underlying31 (hS.cell 0 rfl 0 _ rfl) hA rfl rfl rfl) rfl, puOn rfl rfl rfl rfl [(13, .slice B179 m180 d181), (81, .bool (decide (x24714.f0 < x24585.f2)))] rfl hb24738 (fun ac hA => y_move hA rfl rfl) rfl, puOn rfl rfl rfl rfl [(15, .int .i64 x20659), (81, .bool (decide (x24714.f0 < x24585.f2)))] rfl hb24738 (fun ac hA => y_move hA rfl rfl) rfl, puOn rfl rfl rfl rfl [(81, .bool (decide (x24714.f0 < x24585.f2))), (84, .slice B179 m180 d181), (85, .int .i64 x20659)] rfl hb24738 (fun ac hA => y_ia Tryd.underlying38 sz41 (hS.rd 2 rfl) h24586 hA rfl rfl rfl) rfl, puOn rfl rfl rfl rfl [(81, .bool (decide (x24714.f0 < x24585.f2))), (86, .pointer (some (ea B179 (x20659.toNat * 8))))] rfl hb24738 (fun ac hA => y_fae (m := x20659.toNat * 8) fa41_3 hA rfl rfl) rfl, puOn rfl rfl rfl rfl [(81, .bool (decide (x24714.f0 < x24585.f2))), (87, .pointer (some (ea B179 (x20659.toNat * 8 + 3))))] rfl hb24738 (fun ac hA => y_ld Tryd.underlying31 (hc24739 3 _ rfl) hA rfl rfl rfl) rfl, puOn rfl rfl rfl rfl [(81, .bool (decide (x24714.f0 < x24585.f2))), (83, .int .u64 x24714.f0), (88, .int .u64 x24585.f3)] rfl hb24738 (fun ac hA => r_gtI rfl (hA.ev rfl) (hA.ev rfl)) rfl, pu rfl rfl [(81, .bool (decide (x24714.f0 < x24585.f2))), (89, .bool (decide (x24585.f3 < x24714.f0)))] (fun ac hA => y_pickf hb24738 hA rfl rfl rfl) rfl rfl, pu rfl rfl [(90, .bool (decide (x24585.f3 < x24714.f0)))] (fun ac hA => y_move hA rfl rfl) rfl rfl, puOn rfl rfl rfl rfl [(18, .pointer (some ⟨g24717, 0, none⟩)), (91, .bool (decide (x24585.f3 < x24714.f0)))] rfl hb24740 (fun ac hA => y_fab fa44_2 hA rfl rfl) rfl, puOn rfl rfl rfl rfl [(91, .bool (decide (x24585.f3 < x24714.f0))), (92, .pointer (some ⟨g24717, 2, none⟩))] rfl hb24740 (fun ac hA => y_ld Tryd.underlying2 (hS.cell 0 rfl 2 _ rfl) hA rfl rfl rfl) rfl, puOn rfl rfl rfl rfl [(13, .slice B179 m180 d181), (91, .bool (decide (x24585.f3 < x24714.f0)))] rfl hb24740 (fun ac hA => y_move hA rfl rfl) rfl, puOn rfl rfl rfl rfl [(15, .int .i64 x20659), (91, .bool (decide (x24585.f3 < x24714.f0)))] rfl hb24740 (fun ac hA => y_move hA rfl rfl) rfl, puOn rfl rfl rfl rfl [(91, .bool (decide (x24585.f3 < x24714.f0))), (94, .slice B179 m180 d181), (95, .int .i64 x20659)] rfl hb24740 (fun ac hA => y_ia Tryd.underlying38 sz41 (hS.rd 2 rfl) h24586 hA rfl rfl rfl) rfl, puOn rfl rfl rfl rfl [(91, .bool (decide (x24585.f3 < x24714.f0))), (96, .pointer (some (ea B179 (x20659.toNat * 8))))] rfl hb24740 (fun ac hA => y_fae (m := x20659.toNat * 8) fa41_4 hA rfl rfl) rfl, puOn rfl rfl rfl rfl [(91, .bool (decide (x24585.f3 < x24714.f0))), (97, .pointer (some (ea B179 (x20659.toNat * 8 + 4))))] rfl hb24740 (fun ac hA => y_ld Tryd.underlying2 (hc24741 4 _ rfl) hA rfl rfl rfl) rfl, puOn rfl rfl rfl rfl [(91, .bool (decide (x24585.f3 < x24714.f0))), (93, .int .i64 x24714.f2), (98, .int .i64 x24585.f4)] rfl hb24740 (fun ac hA => r_ltI rfl (hA.ev rfl) (hA.ev rfl)) rfl, pu rfl rfl [(91, .bool (decide (x24585.f3 < x24714.f0))), (99, .bool (decide (x24714.f2 < x24585.f4)))] (fun ac hA => y_pickf hb24740 hA rfl rfl rfl) rfl rfl, pu rfl rfl [(100, .bool (decide (x24714.f2 < x24585.f4)))] (fun ac hA => y_move hA rfl rfl) rfl rfl, puOff rfl rfl rfl rfl [(18, .pointer (some ⟨g24717, 0, none⟩)), (101, .bool (decide (x24714.f2 < x24585.f4)))] rfl hb24742 rfl, puOff rfl rfl rfl rfl [(101, .bool (decide (x24714.f2 < x24585.f4))), (102, undef)] rfl hb24742 rfl, puOff rfl rfl rfl rfl [(13, .slice B179 m180 d181), (101, .bool (decide (x24714.f2 < x24585.f4)))] rfl hb24742 rfl, puOff rfl rfl rfl rfl [(15, .int .i64 x20659), (101, .bool (decide (x24714.f2 < x24585.f4)))] rfl hb24742 rfl, puOff rfl rfl rfl rfl [(101, .bool (decide (x24714.f2 < x24585.f4))), (104, undef), (105, undef)] rfl hb24742 rfl, puOff rfl rfl rfl rfl [(101, .bool (decide (x24714.f2 < x24585.f4))), (106, undef)] rfl hb24742 rfl, puOff rfl rfl rfl rfl [(101, .bool (decide (x24714.f2 < x24585.f4))), (107, undef)] rfl hb24742 rfl, puOff rfl rfl rfl rfl [(101, .bool (decide (x24714.f2 < x24585.f4))), (103, undef), (108, undef)] rfl hb24742 rfl, pu rfl rfl [(101, .bool (decide (x24714.f2 < x24585.f4))), (109, undef)] (fun ac hA => y_pickt hb24742 hA rfl rfl rfl) rfl rfl, pu rfl rfl [(110, .bool true)] (fun ac hA => y_move hA rfl rfl) rfl rfl, puOff rfl rfl rfl rfl [(18, .pointer (some ⟨g24717, 0, none⟩)), (111, .bool true)] rfl rfl rfl, puOff rfl rfl rfl rfl [(111, .bool true), (112, undef)] rfl rfl rfl, puOff rfl rfl rfl rfl [(13, .slice B179 m180 d181), (111, .bool true)] rfl rfl rfl, puOff rfl rfl rfl rfl [(15, .int .i64 x20659), (111, .bool true)] rfl rfl rfl, puOff rfl rfl rfl rfl [(111, .bool true), (114, undef), (115, undef)] rfl rfl rfl, puOff rfl rfl rfl rfl [(111, .bool true), (116, undef)] rfl rfl rfl, puOff rfl rfl rfl rfl [(111, .bool true), (117, undef)] rfl rfl rfl, puOff rfl rfl rfl rfl [(111, .bool true), (113, undef), (118, undef)] rfl rfl rfl, pu rfl rfl [(111, .bool true), (119, undef)] (fun ac hA => y_pickt rfl hA rfl rfl rfl) rfl rfl, pu rfl rfl [(120, .bool true)] (fun ac hA => y_move hA rfl rfl) rfl rfl, puOff rfl rfl rfl rfl [(18, .pointer (some ⟨g24717, 0, none⟩)), (121, .bool true)] rfl rfl rfl, puOff rfl rfl rfl rfl [(121, .bool true), (122, undef)] rfl rfl rfl, puOff rfl rfl rfl rfl [(13, .slice B179 m180 d181), (121, .bool true)] rfl rfl rfl, puOff rfl rfl rfl rfl [(15, .int .i64 x20659), (121, .bool true)] rfl rfl rfl, puOff rfl rfl rfl rfl [(121, .bool true), (124, undef), (125, undef)] rfl rfl rfl, puOff rfl rfl rfl rfl [(121, .bool true), (126, undef)] rfl rfl rfl, puOff rfl rfl rfl rfl [(121, .bool true), (127, undef)] rfl rfl rfl, puOff rfl rfl rfl rfl [(121, .bool true), (123, undef), (128, undef)] rfl rfl rfl, pu rfl rfl [(121, .bool true), (129, undef)] (fun ac hA => y_pickt rfl hA rfl rfl rfl) rfl rfl, trivial⟩ ⟨by kernel_rfl, by kernel_rfl⟩ [(5, .pointer (some ⟨g102, 0, none⟩)), (8, .slice B133 m134 d135), (13, .slice B179 m180 d181), (14, .int .i64 x20658), (15, .int .i64 x20659), (16, .bool b24410), (17, .int .i64 x24411), (18, .pointer (some ⟨g24717, 0, none⟩)), (82, .pointer (some ⟨g24717, 0, none⟩)), (83, .int .u64 x24714.f0), (84, .slice B179 m180 d181), (85, .int .i64 x20659), (88, .int .u64 x24585.f3), (89, .bool (decide (x24585.f3 < x24714.f0))), (92, .pointer (some ⟨g24717, 2, none⟩)), (93, .int .i64 x24714.f2), (94, .slice B179 m180 d181), (95, .int .i64 x20659), (98, .int .i64 x24585.f4), (99, .bool (decide (x24714.f2 < x24585.f4))), (130, .bool true)] rfl (fun ac hA => ?_)
     replace hS := hS.pk 3
     replace hS := hS.pk 3
     replace hS := hS.pk 2
     replace hS := hS.pk 3
     exact hj3 true hF ac w (hA.sub _ rfl) hS
    replace hF := iff' hb24742 hF
    obtain ⟨cs, hV, hc24743⟩ := el (hS.rd 2 rfl) h24586
    obtain rfl := hV
    refine bcase (b := decide (x24585.f5 < x24714.f2)) (fun hb24744 => ?_) fun hb24744 => ?_
    ·replace hF := ift hb24744 hF
     refine ⟨[(0, .pointer (some ⟨g24717, 0, none⟩)), (1, .int .u64 x24714.f0), (2, .slice B179 m180 d181), (3, .int .i64 x20659), (4, .pointer (some (ea B179 (x20659.toNat * 8)))), (5, .pointer (some (ea B179 (x20659.toNat * 8 + 2)))), (6, .int .u64 x24585.f2), (7, .bool (decide (x24714.f0 < x24585.f2))), (8, .bool (decide (x24714.f0 < x24585.f2))), (9, .pointer (some ⟨g24717, 0, none⟩)), (10, .int .u64 x24714.f0), (11, .slice B179 m180 d181), (12, .int .i64 x20659), (13, .pointer (some (ea B179 (x20659.toNat * 8)))), (14, .pointer (some (ea B179 (x20659.toNat * 8 + 3)))), (15, .int .u64 x24585.f3), (16, .bool (decide (x24585.f3 < x24714.f0))), (17, .bool (decide (x24585.f3 < x24714.f0))), (18, .bool (decide (x24585.f3 < x24714.f0))), (19, .pointer (some ⟨g24717, 2, none⟩)), (20, .int .i64 x24714.f2), (21, .slice B179 m180 d181), (22, .int .i64 x20659), (23, .pointer (some (ea B179 (x20659.toNat * 8)))), (24, .pointer (some (ea B179 (x20659.toNat * 8 + 4)))), (25, .int .i64 x24585.f4), (26, .bool (decide (x24714.f2 < x24585.f4))), (27, .bool (decide (x24714.f2 < x24585.f4))), (28, .bool (decide (x24714.f2 < x24585.f4))), (29, .pointer (some ⟨g24717, 2, none⟩)), (30, .int .i64 x24714.f2), (31, .slice B179 m180 d181), (32, .int .i64 x20659), (33, .pointer (some (ea B179 (x20659.toNat * 8)))), (34, .pointer (some (ea B179 (x20659.toNat * 8 + 5)))), (35, .int .i64 x24585.f5), (36, .bool (decide (x24585.f5 < x24714.f2))), (37, .bool (decide (x24585.f5 < x24714.f2))), (38, .bool (decide (x24585.f5 < x24714.f2))), (39, undef), (40, undef), (41, undef), (42, undef), (43, undef), (44, undef), (45, undef), (46, undef), (47, .bool true), (48, .bool true), (49, undef), (50, undef), (51, undef), (52, undef), (53, undef), (54, undef), (55, undef), (56, undef), (57, .bool true)], ?_⟩
     refine dEnd [0, 1, 2, 3, 4, 5, 6, 7, 8, 9, 10, 11, 12, 13, 14, 15, 16, 17, 18, 19, 20, 21, 22, 23, 24, 25, 26, 27, 28, 29, 30, 31, 32, 33, 34, 35, 36, 37, 38, 39, 40, 41, 42, 43, 44, 45, 46, 47, 48, 49, 50, 51, 52, 53, 54, 55, 56, 57] (by kernel_rfl) ⟨pu rfl rfl [(18, .pointer (some ⟨g24717, 0, none⟩))] (fun ac hA => y_fab fa44_0 hA rfl rfl) rfl rfl, pu rfl rfl [(73, .pointer (some ⟨g24717, 0, none⟩))] (fun ac hA => y_ld Tryd.underlying31 (hS.cell 0 rfl 0 _ rfl) hA rfl rfl rfl) rfl rfl, pu rfl rfl [(13, .slice B179 m180 d181)] (fun ac hA => y_move hA rfl rfl) rfl rfl, pu rfl rfl [(15, .int .i64 x20659)] (fun ac hA => y_move hA rfl rfl) rfl rfl, pu rfl rfl [(75, .slice B179 m180 d181), (76, .int .i64 x20659)] (fun ac hA => y_ia Tryd.underlying38 sz41 (hS.rd 2 rfl) h24586 hA rfl rfl rfl) rfl rfl, pu rfl rfl [(77, .pointer (some (ea B179 (x20659.toNat * 8))))] (fun ac hA => y_fae (m := x20659.toNat * 8) fa41_2 hA rfl rfl) rfl rfl, pu rfl rfl [(78, .pointer (some (ea B179 (x20659.toNat * 8 + 2))))] (fun ac hA => y_ld Tryd.underlying31 (hc24737 2 _ rfl) hA rfl rfl rfl) rfl rfl, pu rfl rfl [(74, .int .u64 x24714.f0), (79, .int .u64 x24585.f2)] (fun ac hA => r_ltI rfl (hA.ev rfl) (hA.ev rfl)) rfl rfl, pu rfl rfl [(80, .bool (decide (x24714.f0 < x24585.f2)))] (fun ac hA => y_move hA rfl rfl) rfl rfl, puOn rfl rfl rfl rfl [(18, .pointer (some ⟨g24717, 0, none⟩)), (81, .bool (decide (x24714.f0 < x24585.f2)))] rfl hb24738 (fun ac hA => y_fab fa44_0 hA rfl rfl) rfl, puOn rfl rfl rfl rfl [(81, .bool (decide (x24714.f0 < x24585.f2))), (82, .pointer (some ⟨g24717, 0, none⟩))] rfl hb24738 (fun ac hA => y_ld Tryd.underlying31 (hS.cell 0 rfl 0 _ rfl) hA rfl rfl rfl) rfl, puOn rfl rfl rfl rfl [(13, .slice B179 m180 d181), (81, .bool (decide (x24714.f0 < x24585.f2)))] rfl hb24738 (fun ac hA => y_move hA rfl rfl) rfl, puOn rfl rfl rfl rfl [(15, .int .i64 x20659), (81, .bool (decide (x24714.f0 < x24585.f2)))] rfl hb24738 (fun ac hA => y_move hA rfl rfl) rfl, puOn rfl rfl rfl rfl [(81, .bool (decide (x24714.f0 < x24585.f2))), (84, .slice B179 m180 d181), (85, .int .i64 x20659)] rfl hb24738 (fun ac hA => y_ia Tryd.underlying38 sz41 (hS.rd 2 rfl) h24586 hA rfl rfl rfl) rfl, puOn rfl rfl rfl rfl [(81, .bool (decide (x24714.f0 < x24585.f2))), (86, .pointer (some (ea B179 (x20659.toNat * 8))))] rfl hb24738 (fun ac hA => y_fae (m := x20659.toNat * 8) fa41_3 hA rfl rfl) rfl, puOn rfl rfl rfl rfl [(81, .bool (decide (x24714.f0 < x24585.f2))), (87, .pointer (some (ea B179 (x20659.toNat * 8 + 3))))] rfl hb24738 (fun ac hA => y_ld Tryd.underlying31 (hc24739 3 _ rfl) hA rfl rfl rfl) rfl, puOn rfl rfl rfl rfl [(81, .bool (decide (x24714.f0 < x24585.f2))), (83, .int .u64 x24714.f0), (88, .int .u64 x24585.f3)] rfl hb24738 (fun ac hA => r_gtI rfl (hA.ev rfl) (hA.ev rfl)) rfl, pu rfl rfl [(81, .bool (decide (x24714.f0 < x24585.f2))), (89, .bool (decide (x24585.f3 < x24714.f0)))] (fun ac hA => y_pickf hb24738 hA rfl rfl rfl) rfl rfl, pu rfl rfl [(90, .bool (decide (x24585.f3 < x24714.f0)))] (fun ac hA => y_move hA rfl rfl) rfl rfl, puOn rfl rfl rfl rfl [(18, .pointer (some ⟨g24717, 0, none⟩)), (91, .bool (decide (x24585.f3 < x24714.f0)))] rfl hb24740 (fun ac hA => y_fab fa44_2 hA rfl rfl) rfl, puOn rfl rfl rfl rfl [(91, .bool (decide (x24585.f3 < x24714.f0))), (92, .pointer (some ⟨g24717, 2, none⟩))] rfl hb24740 (fun ac hA => y_ld Tryd.underlying2 (hS.cell 0 rfl 2 _ rfl) hA rfl rfl rfl) rfl, puOn rfl rfl rfl rfl [(13, .slice B179 m180 d181), (91, .bool (decide (x24585.f3 < x24714.f0)))] rfl hb24740 (fun ac hA => y_move hA rfl rfl) rfl, puOn rfl rfl rfl rfl [(15, .int .i64 x20659), (91, .bool (decide (x24585.f3 < x24714.f0)))] rfl hb24740 (fun ac hA => y_move hA rfl rfl) rfl, puOn rfl rfl rfl rfl [(91, .bool (decide (x24585.f3 < x24714.f0))), (94, .slice B179 m180 d181), (95, .int .i64 x20659)] rfl hb24740 (fun ac hA => y_ia Tryd.underlying38 sz41 (hS.rd 2 rfl) h24586 hA rfl rfl rfl) rfl, puOn rfl rfl rfl rfl [(91, .bool (decide (x24585.f3 < x24714.f0))), (96, .pointer (some (ea B179 (x20659.toNat * 8))))] rfl hb24740 (fun ac hA => y_fae (m := x20659.toNat * 8) fa41_4 hA rfl rfl) rfl, puOn rfl rfl rfl rfl [(91, .bool (decide (x24585.f3 < x24714.f0))), (97, .pointer (some (ea B179 (x20659.toNat * 8 + 4))))] rfl hb24740 (fun ac hA => y_ld Tryd.underlying2 (hc24741 4 _ rfl) hA rfl rfl rfl) rfl, puOn rfl rfl rfl rfl [(91, .bool (decide (x24585.f3 < x24714.f0))), (93, .int .i64 x24714.f2), (98, .int .i64 x24585.f4)] rfl hb24740 (fun ac hA => r_ltI rfl (hA.ev rfl) (hA.ev rfl)) rfl, pu rfl rfl [(91, .bool (decide (x24585.f3 < x24714.f0))), (99, .bool (decide (x24714.f2 < x24585.f4)))] (fun ac hA => y_pickf hb24740 hA rfl rfl rfl) rfl rfl, pu rfl rfl [(100, .bool (decide (x24714.f2 < x24585.f4)))] (fun ac hA => y_move hA rfl rfl) rfl rfl, puOn rfl rfl rfl rfl [(18, .pointer (some ⟨g24717, 0, none⟩)), (101, .bool (decide (x24714.f2 < x24585.f4)))] rfl hb24742 (fun ac hA => y_fab fa44_2 hA rfl rfl) rfl, puOn rfl rfl rfl rfl [(101, .bool (decide (x24714.f2 < x24585.f4))), (102, .pointer (some ⟨g24717, 2, none⟩))] rfl hb24742 (fun ac hA => y_ld Tryd.underlying2 (hS.cell 0 rfl 2 _ rfl) hA rfl rfl rfl) rfl, puOn rfl rfl rfl rfl [(13, .slice B179 m180 d181), (101, .bool (decide (x24714.f2 < x24585.f4)))] rfl hb24742 (fun ac hA => y_move hA rfl rfl) rfl, puOn rfl rfl rfl rfl [(15, .int .i64 x20659), (101, .bool (decide (x24714.f2 < x24585.f4)))] rfl hb24742 (fun ac hA => y_move hA rfl rfl) rfl, puOn rfl rfl rfl rfl [(101, .bool (decide (x24714.f2 < x24585.f4))), (104, .slice B179 m180 d181), (105, .int .i64 x20659)] rfl hb24742 (fun ac hA => y_ia Tryd.underlying38 sz41 (hS.rd 2 rfl) h24586 hA rfl rfl rfl) rfl, puOn rfl rfl rfl rfl [(101, .bool (decide (x24714.f2 < x24585.f4))), (106, .pointer (some (ea B179 (x20659.toNat * 8))))] rfl hb24742 (fun ac hA => y_fae (m := x20659.toNat * 8) fa41_5 hA rfl rfl) rfl, puOn rfl rfl rfl rfl [(101, .bool (decide (x24714.f2 < x24585.f4))), (107, .pointer (some (ea B179 (x20659.toNat * 8 + 5))))] rfl hb24742 (fun ac hA => y_ld Tryd.underlying2 (hc24743 5 _ rfl) hA rfl rfl rfl) rfl, puOn rfl rfl rfl rfl [(101, .bool (decide (x24714.f2 < x24585.f4))), (103, .int .i64 x24714.f2), (108, .int .i64 x24585.f5)] rfl hb24742 (fun ac hA => r_gtI rfl (hA.ev rfl) (hA.ev rfl)) rfl, pu rfl rfl [(101, .bool (decide (x24714.f2 < x24585.f4))), (109, .bool (decide (x24585.f5 < x24714.f2)))] (fun ac hA => y_pickf hb24742 hA rfl rfl rfl) rfl rfl, pu rfl rfl [(110, .bool (decide (x24585.f5 < x24714.f2)))] (fun ac hA => y_move hA rfl rfl) rfl rfl, puOff rfl rfl rfl rfl [(18, .pointer (some ⟨g24717, 0, none⟩)), (111, .bool (decide (x24585.f5 < x24714.f2)))] rfl hb24744 rfl, puOff rfl rfl rfl rfl [(111, .bool (decide (x24585.f5 < x24714.f2))), (112, undef)] rfl hb24744 rfl, puOff rfl rfl rfl rfl [(13, .slice B179 m180 d181), (111, .bool (decide (x24585.f5 < x24714.f2)))] rfl hb24744 rfl, puOff rfl rfl rfl rfl [(15, .int .i64 x20659), (111, .bool (decide (x24585.f5 < x24714.f2)))] rfl hb24744 rfl, puOff rfl rfl rfl rfl [(111, .bool (decide (x24585.f5 < x24714.f2))), (114, undef), (115, undef)] rfl hb24744 rfl, puOff rfl rfl rfl rfl [(111, .bool (decide (x24585.f5 < x24714.f2))), (116, undef)] rfl hb24744 rfl, puOff rfl rfl rfl rfl [(111, .bool (decide (x24585.f5 < x24714.f2))), (117, undef)] rfl hb24744 rfl, puOff rfl rfl rfl rfl [(111, .bool (decide (x24585.f5 < x24714.f2))), (113, undef), (118, undef)] rfl hb24744 rfl, pu rfl rfl [(111, .bool (decide (x24585.f5 < x24714.f2))), (119, undef)] (fun ac hA => y_pickt hb24744 hA rfl rfl rfl) rfl rfl, pu rfl rfl [(120, .bool true)] (fun ac hA => y_move hA rfl rfl) rfl rfl, puOff rfl rfl rfl rfl [(18, .pointer (some ⟨g24717, 0, none⟩)), (121, .bool true)] rfl rfl rfl, puOff rfl rfl rfl rfl [(121, .bool true), (122, undef)] rfl rfl rfl, puOff rfl rfl rfl rfl [(13, .slice B179 m180 d181), (121, .bool true)] rfl rfl rfl, puOff rfl rfl rfl rfl [(15, .int .i64 x20659), (121, .bool true)] rfl rfl rfl, puOff rfl rfl rfl rfl [(121, .bool true), (124, undef), (125, undef)] rfl rfl rfl, puOff rfl rfl rfl rfl [(121, .bool true), (126, undef)] rfl rfl rfl, puOff rfl rfl rfl rfl [(121, .bool true), (127, undef)] rfl rfl rfl, puOff rfl rfl rfl rfl [(121, .bool true), (123, undef), (128, undef)] rfl rfl rfl, pu rfl rfl [(121, .bool true), (129, undef)] (fun ac hA => y_pickt rfl hA rfl rfl rfl) rfl rfl, trivial⟩ ⟨by kernel_rfl, by kernel_rfl⟩ [(5, .pointer (some ⟨g102, 0, none⟩)), (8, .slice B133 m134 d135), (13, .slice B179 m180 d181), (14, .int .i64 x20658), (15, .int .i64 x20659), (16, .bool b24410), (17, .int .i64 x24411), (18, .pointer (some ⟨g24717, 0, none⟩)), (82, .pointer (some ⟨g24717, 0, none⟩)), (83, .int .u64 x24714.f0), (84, .slice B179 m180 d181), (85, .int .i64 x20659), (88, .int .u64 x24585.f3), (89, .bool (decide (x24585.f3 < x24714.f0))), (92, .pointer (some ⟨g24717, 2, none⟩)), (93, .int .i64 x24714.f2), (94, .slice B179 m180 d181), (95, .int .i64 x20659), (98, .int .i64 x24585.f4), (99, .bool (decide (x24714.f2 < x24585.f4))), (102, .pointer (some ⟨g24717, 2, none⟩)), (103, .int .i64 x24714.f2), (104, .slice B179 m180 d181), (105, .int .i64 x20659), (108, .int .i64 x24585.f5), (109, .bool (decide (x24585.f5 < x24714.f2))), (130, .bool true)] rfl (fun ac hA => ?_)
     replace hS := hS.pk 3
     replace hS := hS.pk 3
     replace hS := hS.pk 2
     replace hS := hS.pk 3
     exact hj3 true hF ac w (hA.sub _ rfl) hS
    replace hF := iff' hb24744 hF
    obtain ⟨cs, hV, hc24745⟩ := el (hS.rd 2 rfl) h24586
    obtain rfl := hV
    refine bcase (b := Op.bytesLess x24714.f3 x24585.f6) (fun hb24746 => ?_) fun hb24746 => ?_
    ·replace hF := ift hb24746 hF
     refine ⟨[(0, .pointer (some ⟨g24717, 0, none⟩)), (1, .int .u64 x24714.f0), (2, .slice B179 m180 d181), (3, .int .i64 x20659), (4, .pointer (some (ea B179 (x20659.toNat * 8)))), (5, .pointer (some (ea B179 (x20659.toNat * 8 + 2)))), (6, .int .u64 x24585.f2), (7, .bool (decide (x24714.f0 < x24585.f2))), (8, .bool (decide (x24714.f0 < x24585.f2))), (9, .pointer (some ⟨g24717, 0, none⟩)), (10, .int .u64 x24714.f0), (11, .slice B179 m180 d181), (12, .int .i64 x20659), (13, .pointer (some (ea B179 (x20659.toNat * 8)))), (14, .pointer (some (ea B179 (x20659.toNat * 8 + 3)))), (15, .int .u64 x24585.f3), (16, .bool (decide (x24585.f3 < x24714.f0))), (17, .bool (decide (x24585.f3 < x24714.f0))), (18, .bool (decide (x24585.f3 < x24714.f0))), (19, .pointer (some ⟨g24717, 2, none⟩)), (20, .int .i64 x24714.f2), (21, .slice B179 m180 d181), (22, .int .i64 x20659), (23, .pointer (some (ea B179 (x20659.toNat * 8)))), (24, .pointer (some (ea B179 (x20659.toNat * 8 + 4)))), (25, .int .i64 x24585.f4), (26, .bool (decide (x24714.f2 < x24585.f4))), (27, .bool (decide (x24714.f2 < x24585.f4))), (28, .bool (decide (x24714.f2 < x24585.f4))), (29, .pointer (some ⟨g24717, 2, none⟩)), (30, .int .i64 x24714.f2), (31, .slice B179 m180 d181), (32, .int .i64 x20659), (33, .pointer (some (ea B179 (x20659.toNat * 8)))), (34, .pointer (some (ea B179 (x20659.toNat * 8 + 5)))), (35, .int .i64 x24585.f5), (36, .bool (decide (x24585.f5 < x24714.f2))), (37, .bool (decide (x24585.f5 < x24714.f2))), (38, .bool (decide (x24585.f5 < x24714.f2))), (39, .pointer (some ⟨g24717, 3, none⟩)), (40, str x24714.f3), (41, .slice B179 m180 d181), (42, .int .i64 x20659), (43, .pointer (some (ea B179 (x20659.toNat * 8)))), (44, .pointer (some (ea B179 (x20659.toNat * 8 + 6)))), (45, str x24585.f6), (46, .bool (Op.bytesLess x24714.f3 x24585.f6)), (47, .bool (Op.bytesLess x24714.f3 x24585.f6)), (48, .bool (Op.bytesLess x24714.f3 x24585.f6)), (49, undef), (50, undef), (51, undef), (52, undef), (53, undef), (54, undef), (55, undef), (56, undef), (57, .bool true)], ?_⟩
     refine dEnd [0, 1, 2, 3, 4, 5, 6, 7, 8, 9, 10, 11, 12, 13, 14, 15, 16, 17, 18, 19, 20, 21, 22, 23, 24, 25, 26, 27, 28, 29, 30, 31, 32, 33, 34, 35, 36, 37, 38, 39, 40, 41, 42, 43, 44, 45, 46, 47, 48, 49, 50, 51, 52, 53, 54, 55, 56, 57] (by kernel_rfl) ⟨pu rfl rfl [(18, .pointer (some ⟨g24717, 0, none⟩))] (fun ac hA => y_fab fa44_0 hA rfl rfl) rfl rfl, pu rfl rfl [(73, .pointer (some ⟨g24717, 0, none⟩))] (fun ac hA => y_ld Tryd.underlying31 (hS.cell 0 rfl 0 _ rfl) hA rfl rfl rfl) rfl rfl, pu rfl rfl [(13, .slice B179 m180 d181)] (fun ac hA => y_move hA rfl rfl) rfl rfl, pu rfl rfl [(15, .int .i64 x20659)] (fun ac hA => y_move hA rfl rfl) rfl rfl, pu rfl rfl [(75, .slice B179 m180 d181), (76, .int .i64 x20659)] (fun ac hA => y_ia Tryd.underlying38 sz41 (hS.rd 2 rfl) h24586 hA rfl rfl rfl) rfl rfl, pu rfl rfl [(77, .pointer (some (ea B179 (x20659.toNat * 8))))] (fun ac hA => y_fae (m := x20659.toNat * 8) fa41_2 hA rfl rfl) rfl rfl, pu rfl rfl [(78, .pointer (some (ea B179 (x20659.toNat * 8 + 2))))] (fun ac hA => y_ld Tryd.underlying31 (hc24737 2 _ rfl) hA rfl rfl rfl) rfl rfl, pu rfl rfl [(74, .int .u64 x24714.f0), (79, .int .u64 x24585.f2)] (fun ac hA => r_ltI rfl (hA.ev rfl) (hA.ev rfl)) rfl rfl, pu rfl rfl [(80, .bool (decide (x24714.f0 < x24585.f2)))] (fun ac hA => y_move hA rfl rfl) rfl rfl, puOn rfl rfl rfl rfl [(18, .pointer (some ⟨g24717, 0, none⟩)), (81, .bool (decide (x24714.f0 < x24585.f2)))] rfl hb24738 (fun ac hA => y_fab fa44_0 hA rfl rfl) rfl, puOn rfl rfl rfl rfl [(81, .bool (decide (x24714.f0 < x24585.f2))), (82, .pointer (some ⟨g24717, 0, none⟩))] rfl hb24738 (fun ac hA => y_ld Tryd.underlying31 (hS.cell 0 rfl 0 _ rfl) hA rfl rfl rfl) rfl, puOn rfl rfl rfl rfl [(13, .slice B179 m180 d181), (81, .bool (decide (x24714.f0 < x24585.f2)))] rfl hb24738 (fun ac hA => y_move hA rfl rfl) rfl, puOn rfl rfl rfl rfl [(15, .int .i64 x20659), (81, .bool (decide (x24714.f0 < x24585.f2)))] rfl hb24738 (fun ac hA => y_move hA rfl rfl) rfl, puOn rfl rfl rfl rfl [(81, .bool (decide (x24714.f0 < x24585.f2))), (84, .slice B179 m180 d181), (85, .int .i64 x20659)] rfl hb24738 (fun ac hA => y_ia Tryd.underlying38 sz41 (hS.rd 2 rfl) h24586 hA rfl rfl rfl) rfl, puOn rfl rfl rfl rfl [(81, .bool (decide (x24714.f0 < x24585.f2))), (86, .pointer (some (ea B179 (x20659.toNat * 8))))] rfl hb24738 (fun ac hA => y_fae (m := x20659.toNat * 8) fa41_3 hA rfl rfl) rfl, puOn rfl rfl rfl rfl [(81, .bool (decide (x24714.f0 < x24585.f2))), (87, .pointer (some (ea B179 (x20659.toNat * 8 + 3))))] rfl hb24738 (fun ac hA => y_ld Tryd.underlying31 (hc24739 3 _ rfl) hA rfl rfl rfl) rfl, puOn rfl rfl rfl rfl [(81, .bool (decide (x24714.f0 < x24585.f2))), (83, .int .u64 x24714.f0), (88, .int .u64 x24585.f3)] rfl hb24738 (fun ac hA => r_gtI rfl (hA.ev rfl) (hA.ev rfl)) rfl, pu rfl rfl [(81, .bool (decide (x24714.f0 < x24585.f2))), (89, .bool (decide (x24585.f3 < x24714.f0)))] (fun ac hA => y_pickf hb24738 hA rfl rfl rfl) rfl rfl, pu rfl rfl [(90, .bool (decide (x24585.f3 < x24714.f0)))] (fun ac hA => y_move hA rfl rfl) rfl rfl, puOn rfl rfl rfl rfl [(18, .pointer (some ⟨g24717, 0, none⟩)), (91, .bool (decide (x24585.f3 < x24714.f0)))] rfl hb24740 (fun ac hA => y_fab fa44_2 hA rfl rfl) rfl, puOn rfl rfl rfl rfl [(91, .bool (decide (x24585.f3 < x24714.f0))), (92, .pointer (some ⟨g24717, 2, none⟩))] rfl hb24740 (fun ac hA => y_ld Tryd.underlying2 (hS.cell 0 rfl 2 _ rfl) hA rfl rfl rfl) rfl, puOn rfl rfl rfl rfl [(13, .slice B179 m180 d181), (91, .bool (decide (x24585.f3 < x24714.f0)))] rfl hb24740 (fun ac hA => y_move hA rfl rfl) rfl, puOn rfl rfl rfl rfl [(15, .int .i64 x20659), (91, .bool (decide (x24585.f3 < x24714.f0)))] rfl hb24740 (fun ac hA => y_move hA rfl rfl) rfl, puOn rfl rfl rfl rfl [(91, .bool (decide (x24585.f3 < x24714.f0))), (94, .slice B179 m180 d181), (95, .int .i64 x20659)] rfl hb24740 (fun ac hA => y_ia Tryd.underlying38 sz41 (hS.rd 2 rfl) h24586 hA rfl rfl rfl) rfl, puOn rfl rfl rfl rfl [(91, .bool (decide (x24585.f3 < x24714.f0))), (96, .pointer (some (ea B179 (x20659.toNat * 8))))] rfl hb24740 (fun ac hA => y_fae (m := x20659.toNat * 8) fa41_4 hA rfl rfl) rfl, puOn rfl rfl rfl rfl [(91, .bool (decide (x24585.f3 < x24714.f0))), (97, .pointer (some (ea B179 (x20659.toNat * 8 + 4))))] rfl hb24740 (fun ac hA => y_ld Tryd.underlying2 (hc24741 4 _ rfl) hA rfl rfl rfl) rfl, puOn rfl rfl rfl rfl [(91, .bool (decide (x24585.f3 < x24714.f0))), (93, .int .i64 x24714.f2), (98, .int .i64 x24585.f4)] rfl hb24740 (fun ac hA => r_ltI rfl (hA.ev rfl) (hA.ev rfl)) rfl, pu rfl rfl [(91, .bool (decide (x24585.f3 < x24714.f0))), (99, .bool (decide (x24714.f2 < x24585.f4)))] (fun ac hA => y_pickf hb24740 hA rfl rfl rfl) rfl rfl, pu rfl rfl [(100, .bool (decide (x24714.f2 < x24585.f4)))] (fun ac hA => y_move hA rfl rfl) rfl rfl, puOn rfl rfl rfl rfl [(18, .pointer (some ⟨g24717, 0, none⟩)), (101, .bool (decide (x24714.f2 < x24585.f4)))] rfl hb24742 (fun ac hA => y_fab fa44_2 hA rfl rfl) rfl, puOn rfl rfl rfl rfl [(101, .bool (decide (x24714.f2 < x24585.f4))), (102, .pointer (some ⟨g24717, 2, none⟩))] rfl hb24742 (fun ac hA => y_ld Tryd.underlying2 (hS.cell 0 rfl 2 _ rfl) hA rfl rfl rfl) rfl, puOn rfl rfl rfl rfl [(13, .slice B179 m180 d181), (101, .bool (decide (x24714.f2 < x24585.f4)))] rfl hb24742 (fun ac hA => y_move hA rfl rfl) rfl, puOn rfl rfl rfl rfl [(15, .int .i64 x20659), (101, .bool (decide (x24714.f2 < x24585.f4)))] rfl hb24742 (fun ac hA => y_move hA rfl rfl) rfl, puOn rfl rfl rfl rfl [(101, .bool (decide (x24714.f2 < x24585.f4))), (104, .slice B179 m180 d181), (105, .int .i64 x20659)] rfl hb24742 (fun ac hA => y_ia Tryd.underlying38 sz41 (hS.rd 2 rfl) h24586 hA rfl rfl rfl) rfl, puOn rfl rfl rfl rfl [(101, .bool (decide (x24714.f2 < x24585.f4))), (106, .pointer (some (ea B179 (x20659.toNat * 8))))] rfl hb24742 (fun ac hA => y_fae (m := x20659.toNat * 8) fa41_5 hA rfl rfl) rfl, puOn rfl rfl rfl rfl [(101, .bool (decide (x24714.f2 < x24585.f4))), (107, .pointer (some (ea B179 (x20659.toNat * 8 + 5))))] rfl hb24742 (fun ac hA => y_ld Tryd.underlying2 (hc24743 5 _ rfl) hA rfl rfl rfl) rfl, puOn rfl rfl rfl rfl [(101, .bool (decide (x24714.f2 < x24585.f4))), (103, .int .i64 x24714.f2), (108, .int .i64 x24585.f5)] rfl hb24742 (fun ac hA => r_gtI rfl (hA.ev rfl) (hA.ev rfl)) rfl, pu rfl rfl [(101, .bool (decide (x24714.f2 < x24585.f4))), (109, .bool (decide (x24585.f5 < x24714.f2)))] (fun ac hA => y_pickf hb24742 hA rfl rfl rfl) rfl rfl, pu rfl rfl [(110, .bool (decide (x24585.f5 < x24714.f2)))] (fun ac hA => y_move hA rfl rfl) rfl rfl, puOn rfl rfl rfl rfl [(18, .pointer (some ⟨g24717, 0, none⟩)), (111, .bool (decide (x24585.f5 < x24714.f2)))] rfl hb24744 (fun ac hA => y_fab fa44_3 hA rfl rfl) rfl, puOn rfl rfl rfl rfl [(111, .bool (decide (x24585.f5 < x24714.f2))), (112, .pointer (some ⟨g24717, 3, none⟩))] rfl hb24744 (fun ac hA => y_ld Tryd.underlying9 (hS.cell 0 rfl 3 _ rfl) hA rfl rfl rfl) rfl, puOn rfl rfl rfl rfl [(13, .slice B179 m180 d181), (111, .bool (decide (x24585.f5 < x24714.f2)))] rfl hb24744 (fun ac hA => y_move hA rfl rfl) rfl, puOn rfl rfl rfl rfl [(15, .int .i64 x20659), (111, .bool (decide (x24585.f5 < x24714.f2)))] rfl hb24744 (fun ac hA => y_move hA rfl rfl) rfl, puOn rfl rfl rfl rfl [(111, .bool (decide (x24585.f5 < x24714.f2))), (114, .slice B179 m180 d181), (115, .int .i64 x20659)] rfl hb24744 (fun ac hA => y_ia Tryd.underlying38 sz41 (hS.rd 2 rfl) h24586 hA rfl rfl rfl) rfl, puOn rfl rfl rfl rfl [(111, .bool (decide (x24585.f5 < x24714.f2))), (116, .pointer (some (ea B179 (x20659.toNat * 8))))] rfl hb24744 (fun ac hA => y_fae (m := x20659.toNat * 8) fa41_6 hA rfl rfl) rfl, puOn rfl rfl rfl rfl [(111, .bool (decide (x24585.f5 < x24714.f2))), (117, .pointer (some (ea B179 (x20659.toNat * 8 + 6))))] rfl hb24744 (fun ac hA => y_ld Tryd.underlying9 (hc24745 6 _ rfl) hA rfl rfl rfl) rfl, puOn rfl rfl rfl rfl [(111, .bool (decide (x24585.f5 < x24714.f2))), (113, str x24714.f3), (118, str x24585.f6)] rfl hb24744 (fun ac hA => r_ltS rfl (hA.ev rfl) (hA.ev rfl)) rfl, pu rfl rfl [(111, .bool (decide (x24585.f5 < x24714.f2))), (119, .bool (Op.bytesLess x24714.f3 x24585.f6))] (fun ac hA => y_pickf hb24744 hA rfl rfl rfl) rfl rfl, pu rfl rfl [(120, .bool (Op.bytesLess x24714.f3 x24585.f6))] (fun ac hA => y_move hA rfl rfl) rfl rfl, puOff rfl rfl rfl rfl [(18, .pointer (some ⟨g24717, 0, none⟩)), (121, .bool (Op.bytesLess x24714.f3 x24585.f6))] rfl hb24746 rfl, puOff rfl rfl rfl rfl [(121, .bool (Op.bytesLess x24714.f3 x24585.f6)), (122, undef)] rfl hb24746 rfl, puOff rfl rfl rfl rfl [(13, .slice B179 m180 d181), (121, .bool (Op.bytesLess x24714.f3 x24585.f6))] rfl hb24746 rfl, puOff rfl rfl rfl rfl [(15, .int .i64 x20659), (121, .bool (Op.bytesLess x24714.f3 x24585.f6))] rfl hb24746 rfl, puOff rfl rfl rfl rfl [(121, .bool (Op.bytesLess x24714.f3 x24585.f6)), (124, undef), (125, undef)] rfl hb24746 rfl, puOff rfl rfl rfl rfl [(121, .bool (Op.bytesLess x24714.f3 x24585.f6)), (126, undef)] rfl hb24746 rfl, puOff rfl rfl rfl rfl [(121, .bool (Op.bytesLess x24714.f3 x24585.f6)), (127, undef)] rfl hb24746 rfl, puOff rfl rfl rfl rfl [(121, .bool (Op.bytesLess x24714.f3 x24585.f6)), (123, undef), (128, undef)] rfl hb24746 rfl, pu rfl rfl [(121, .bool (Op.bytesLess x24714.f3 x24585.f6)), (129, undef)] (fun ac hA => y_pickt hb24746 hA rfl rfl rfl) rfl rfl, trivial⟩ ⟨by kernel_rfl, by kernel_rfl⟩ [(5, .pointer (some ⟨g102, 0, none⟩)), (8, .slice B133 m134 d135), (13, .slice B179 m180 d181), (14, .int .i64 x20658), (15, .int .i64 x20659), (16, .bool b24410), (17, .int .i64 x24411), (18, .pointer (some ⟨g24717, 0, none⟩)), (82, .pointer (some ⟨g24717, 0, none⟩)), (83, .int .u64 x24714.f0), (84, .slice B179 m180 d181), (85, .int .i64 x20659), (88, .int .u64 x24585.f3), (89, .bool (decide (x24585.f3 < x24714.f0))), (92, .pointer (some ⟨g24717, 2, none⟩)), (93, .int .i64 x24714.f2), (94, .slice B179 m180 d181), (95, .int .i64 x20659), (98, .int .i64 x24585.f4), (99, .bool (decide (x24714.f2 < x24585.f4))), (102, .pointer (some ⟨g24717, 2, none⟩)), (103, .int .i64 x24714.f2), (104, .slice B179 m180 d181), (105, .int .i64 x20659), (108, .int .i64 x24585.f5), (109, .bool (decide (x24585.f5 < x24714.f2))), (112, .pointer (some ⟨g24717, 3, none⟩)), (113, str x24714.f3), (114, .slice B179 m180 d181), (115, .int .i64 x20659), (118, str x24585.f6), (119, .bool (Op.bytesLess x24714.f3 x24585.f6)), (130, .bool true)] rfl (fun ac hA => ?_)
     replace hS := hS.pk 3
     replace hS := hS.pk 3
     replace hS := hS.pk 2
     replace hS := hS.pk 3
     exact hj3 true hF ac w (hA.sub _ rfl) hS
    replace hF := iff' hb24746 hF
    obtain ⟨cs, hV, hc24747⟩ := el (hS.rd 2 rfl) h24586
    obtain rfl := hV
    refine ⟨[(0, .pointer (some ⟨g24717, 0, none⟩)), (1, .int .u64 x24714.f0), (2, .slice B179 m180 d181), (3, .int .i64 x20659), (4, .pointer (some (ea B179 (x20659.toNat * 8)))), (5, .pointer (some (ea B179 (x20659.toNat * 8 + 2)))), (6, .int .u64 x24585.f2), (7, .bool (decide (x24714.f0 < x24585.f2))), (8, .bool (decide (x24714.f0 < x24585.f2))), (9, .pointer (some ⟨g24717, 0, none⟩)), (10, .int .u64 x24714.f0), (11, .slice B179 m180 d181), (12, .int .i64 x20659), (13, .pointer (some (ea B179 (x20659.toNat * 8)))), (14, .pointer (some (ea B179 (x20659.toNat * 8 + 3)))), (15, .int .u64 x24585.f3), (16, .bool (decide (x24585.f3 < x24714.f0))), (17, .bool (decide (x24585.f3 < x24714.f0))), (18, .bool (decide (x24585.f3 < x24714.f0))), (19, .pointer (some ⟨g24717, 2, none⟩)), (20, .int .i64 x24714.f2), (21, .slice B179 m180 d181), (22, .int .i64 x20659), (23, .pointer (some (ea B179 (x20659.toNat * 8)))), (24, .pointer (some (ea B179 (x20659.toNat * 8 + 4)))), (25, .int .i64 x24585.f4), (26, .bool (decide (x24714.f2 < x24585.f4))), (27, .bool (decide (x24714.f2 < x24585.f4))), (28, .bool (decide (x24714.f2 < x24585.f4))), (29, .pointer (some ⟨g24717, 2, none⟩)), (30, .int .i64 x24714.f2), (31, .slice B179 m180 d181), (32, .int .i64 x20659), (33, .pointer (some (ea B179 (x20659.toNat * 8)))), (34, .pointer (some (ea B179 (x20659.toNat * 8 + 5)))), (35, .int .i64 x24585.f5), (36, .bool (decide (x24585.f5 < x24714.f2))), (37, .bool (decide (x24585.f5 < x24714.f2))), (38, .bool (decide (x24585.f5 < x24714.f2))), (39, .pointer (some ⟨g24717, 3, none⟩)), (40, str x24714.f3), (41, .slice B179 m180 d181), (42, .int .i64 x20659), (43, .pointer (some (ea B179 (x20659.toNat * 8)))), (44, .pointer (some (ea B179 (x20659.toNat * 8 + 6)))), (45, str x24585.f6), (46, .bool (Op.bytesLess x24714.f3 x24585.f6)), (47, .bool (Op.bytesLess x24714.f3 x24585.f6)), (48, .bool (Op.bytesLess x24714.f3 x24585.f6)), (49, .pointer (some ⟨g24717, 3, none⟩)), (50, str x24714.f3), (51, .slice B179 m180 d181), (52, .int .i64 x20659), (53, .pointer (some (ea B179 (x20659.toNat * 8)))), (54, .pointer (some (ea B179 (x20659.toNat * 8 + 7)))), (55, str x24585.f7), (56, .bool (!(Op.bytesLess x24714.f3 x24585.f7 || x24714.f3 == x24585.f7))), (57, .bool (!(Op.bytesLess x24714.f3 x24585.f7 || x24714.f3 == x24585.f7)))], ?_⟩
    refine dEnd [0, 1, 2, 3, 4, 5, 6, 7, 8, 9, 10, 11, 12, 13, 14, 15, 16, 17, 18, 19, 20, 21, 22, 23, 24, 25, 26, 27, 28, 29, 30, 31, 32, 33, 34, 35, 36, 37, 38, 39, 40, 41, 42, 43, 44, 45, 46, 47, 48, 49, 50, 51, 52, 53, 54, 55, 56, 57] (by kernel_rfl) ⟨pu rfl rfl [(18, .pointer (some ⟨g24717, 0, none⟩))] (fun ac hA => y_fab fa44_0 hA rfl rfl) rfl rfl, pu rfl rfl [(73, .pointer (some ⟨g24717, 0, none⟩))] (fun ac hA => y_ld Tryd.underlying31 (hS.cell 0 rfl 0 _ rfl) hA rfl rfl rfl) rfl rfl, pu rfl rfl [(13, .slice B179 m180 d181)] (fun ac hA => y_move hA rfl rfl) rfl rfl, pu rfl rfl [(15, .int .i64 x20659)] (fun ac hA => y_move hA rfl rfl) rfl rfl, pu rfl rfl [(75, .slice B179 m180 d181), (76, .int .i64 x20659)] (fun ac hA => y_ia Tryd.underlying38 sz41 (hS.rd 2 rfl) h24586 hA rfl rfl rfl) rfl rfl, pu rfl rfl [(77, .pointer (some (ea B179 (x20659.toNat * 8))))] (fun ac hA => y_fae (m := x20659.toNat * 8) fa41_2 hA rfl rfl) rfl rfl, pu rfl rfl [(78, .pointer (some (ea B179 (x20659.toNat * 8 + 2))))] (fun ac hA => y_ld Tryd.underlying31 (hc24737 2 _ rfl) hA rfl rfl rfl) rfl rfl, pu rfl rfl [(74, .int .u64 x24714.f0), (79, .int .u64 x24585.f2)] (fun ac hA => r_ltI rfl (hA.ev rfl) (hA.ev rfl)) rfl rfl, pu rfl rfl [(80, .bool (decide (x24714.f0 < x24585.f2)))] (fun ac hA => y_move hA rfl rfl) rfl rfl, puOn rfl rfl rfl rfl [(18, .pointer (some ⟨g24717, 0, none⟩)), (81, .bool (decide (x24714.f0 < x24585.f2)))] rfl hb24738 (fun ac hA => y_fab fa44_0 hA rfl rfl) rfl, puOn rfl rfl rfl rfl [(81, .bool (decide (x24714.f0 < x24585.f2))), (82, .pointer (some ⟨g24717, 0, none⟩))] rfl hb24738 (fun ac hA => y_ld Tryd.underlying31 (hS.cell 0 rfl 0 _ rfl) hA rfl rfl rfl) rfl, puOn rfl rfl rfl rfl [(13, .slice B179 m180 d181), (81, .bool (decide (x24714.f0 < x24585.f2)))] rfl hb24738 (fun ac hA => y_move hA rfl rfl) rfl, puOn rfl rfl rfl rfl [(15, .int .i64 x20659), (81, .bool (decide (x24714.f0 < x24585.f2)))] rfl hb24738 (fun ac hA => y_move hA rfl rfl) rfl, puOn rfl rfl rfl rfl [(81, .bool (decide (x24714.f0 < x24585.f2))), (84, .slice B179 m180 d181), (85, .int .i64 x20659)] rfl hb24738 (fun ac hA => y_ia Tryd.underlying38 sz41 (hS.rd 2 rfl) h24586 hA rfl rfl rfl) rfl, puOn rfl rfl rfl rfl [(81, .bool (decide (x24714.f0 < x24585.f2))), (86, .pointer (some (ea B179 (x20659.toNat * 8))))] rfl hb24738 (fun ac hA => y_fae (m := x20659.toNat * 8) fa41_3 hA rfl rfl) rfl, puOn rfl rfl rfl rfl [(81, .bool (decide (x24714.f0 < x24585.f2))), (87, .pointer (some (ea B179 (x20659.toNat * 8 + 3))))] rfl hb24738 (fun ac hA => y_ld Tryd.underlying31 (hc24739 3 _ rfl) hA rfl rfl rfl) rfl, puOn rfl rfl rfl rfl [(81, .bool (decide (x24714.f0 < x24585.f2))), (83, .int .u64 x24714.f0), (88, .int .u64 x24585.f3)] rfl hb24738 (fun ac hA => r_gtI rfl (hA.ev rfl) (hA.ev rfl)) rfl, pu rfl rfl [(81, .bool (decide (x24714.f0 < x24585.f2))), (89, .bool (decide (x24585.f3 < x24714.f0)))] (fun ac hA => y_pickf hb24738 hA rfl rfl rfl) rfl rfl, pu rfl rfl [(90, .bool (decide (x24585.f3 < x24714.f0)))] (fun ac hA => y_move hA rfl rfl) rfl rfl, puOn rfl rfl rfl rfl [(18, .pointer (some ⟨g24717, 0, none⟩)), (91, .bool (decide (x24585.f3 < x24714.f0)))] rfl hb24740 (fun ac hA => y_fab fa44_2 hA rfl rfl) rfl, puOn rfl rfl rfl rfl [(91, .bool (decide (x24585.f3 < x24714.f0))), (92, .pointer (some ⟨g24717, 2, none⟩))] rfl hb24740 (fun ac hA => y_ld Tryd.underlying2 (hS.cell 0 rfl 2 _ rfl) hA rfl rfl rfl) rfl, puOn rfl rfl rfl rfl [(13, .slice B179 m180 d181), (91, .bool (decide (x24585.f3 < x24714.f0)))] rfl hb24740 (fun ac hA => y_move hA rfl rfl) rfl, puOn rfl rfl rfl rfl [(15, .int .i64 x20659), (91, .bool (decide (x24585.f3 < x24714.f0)))] rfl hb24740 (fun ac hA => y_move hA rfl rfl) rfl, puOn rfl rfl rfl rfl [(91, .bool (decide (x24585.f3 < x24714.f0))), (94, .slice B179 m180 d181), (95, .int .i64 x20659)] rfl hb24740 (fun ac hA => y_ia Tryd.underlying38 sz41 (hS.rd 2 rfl) h24586 hA rfl rfl rfl) rfl, puOn rfl rfl rfl rfl [(91, .bool (decide (x24585.f3 < x24714.f0))), (96, .pointer (some (ea B179 (x20659.toNat * 8))))] rfl hb24740 (fun ac hA => y_fae (m := x20659.toNat * 8) fa41_4 hA rfl rfl) rfl, puOn rfl rfl rfl rfl [(91, .bool (decide (x24585.f3 < x24714.f0))), (97, .pointer (some (ea B179 (x20659.toNat * 8 + 4))))] rfl hb24740 (fun ac hA => y_ld Tryd.underlying2 (hc24741 4 _ rfl) hA rfl rfl rfl) rfl, puOn rfl rfl rfl rfl [(91, .bool (decide (x24585.f3 < x24714.f0))), (93, .int .i64 x24714.f2), (98, .int .i64 x24585.f4)] rfl hb24740 (fun ac hA => r_ltI rfl (hA.ev rfl) (hA.ev rfl)) rfl, pu rfl rfl [(91, .bool (decide (x24585.f3 < x24714.f0))), (99, .bool (decide (x24714.f2 < x24585.f4)))] (fun ac hA => y_pickf hb24740 hA rfl rfl rfl) rfl rfl, pu rfl rfl [(100, .bool (decide (x24714.f2 < x24585.f4)))] (fun ac hA => y_move hA rfl rfl) rfl rfl, puOn rfl rfl rfl rfl [(18, .pointer (some ⟨g24717, 0, none⟩)), (101, .bool (decide (x24714.f2 < x24585.f4)))] rfl hb24742 (fun ac hA => y_fab fa44_2 hA rfl rfl) rfl, puOn rfl rfl rfl rfl [(101, .bool (decide (x24714.f2 < x24585.f4))), (102, .pointer (some ⟨g24717, 2, none⟩))] rfl hb24742 (fun ac hA => y_ld Tryd.underlying2 (hS.cell 0 rfl 2 _ rfl) hA rfl rfl rfl) rfl, puOn rfl rfl rfl rfl [(13, .slice B179 m180 d181), (101, .bool (decide (x24714.f2 < x24585.f4)))] rfl hb24742 (fun ac hA => y_move hA rfl rfl) rfl, puOn rfl rfl rfl rfl [(15, .int .i64 x20659), (101, .bool (decide (x24714.f2 < x24585.f4)))] rfl hb24742 (fun ac hA => y_move hA rfl rfl) rfl, puOn rfl rfl rfl rfl [(101, .bool (decide (x24714.f2 < x24585.f4))), (104, .slice B179 m180 d181), (105, .int .i64 x20659)] rfl hb24742 (fun ac hA => y_ia Tryd.underlying38 sz41 (hS.rd 2 rfl) h24586 hA rfl rfl rfl) rfl, puOn rfl rfl rfl rfl [(101, .bool (decide (x24714.f2 < x24585.f4))), (106, .pointer (some (ea B179 (x20659.toNat * 8))))] rfl hb24742 (fun ac hA => y_fae (m := x20659.toNat * 8) fa41_5 hA rfl rfl) rfl, puOn rfl rfl rfl rfl [(101, .bool (decide (x24714.f2 < x24585.f4))), (107, .pointer (some (ea B179 (x20659.toNat * 8 + 5))))] rfl hb24742 (fun ac hA => y_ld Tryd.underlying2 (hc24743 5 _ rfl) hA rfl rfl rfl) rfl, puOn rfl rfl rfl rfl [(101, .bool (decide (x24714.f2 < x24585.f4))), (103, .int .i64 x24714.f2), (108, .int .i64 x24585.f5)] rfl hb24742 (fun ac hA => r_gtI rfl (hA.ev rfl) (hA.ev rfl)) rfl, pu rfl rfl [(101, .bool (decide (x24714.f2 < x24585.f4))), (109, .bool (decide (x24585.f5 < x24714.f2)))] (fun ac hA => y_pickf hb24742 hA rfl rfl rfl) rfl rfl, pu rfl rfl [(110, .bool (decide (x24585.f5 < x24714.f2)))] (fun ac hA => y_move hA rfl rfl) rfl rfl, puOn rfl rfl rfl rfl [(18, .pointer (some ⟨g24717, 0, none⟩)), (111, .bool (decide (x24585.f5 < x24714.f2)))] rfl hb24744 (fun ac hA => y_fab fa44_3 hA rfl rfl) rfl, puOn rfl rfl rfl rfl [(111, .bool (decide (x24585.f5 < x24714.f2))), (112, .pointer (some ⟨g24717, 3, none⟩))] rfl hb24744 (fun ac hA => y_ld Tryd.underlying9 (hS.cell 0 rfl 3 _ rfl) hA rfl rfl rfl) rfl, puOn rfl rfl rfl rfl [(13, .slice B179 m180 d181), (111, .bool (decide (x24585.f5 < x24714.f2)))] rfl hb24744 (fun ac hA => y_move hA rfl rfl) rfl, puOn rfl rfl rfl rfl [(15, .int .i64 x20659), (111, .bool (decide (x24585.f5 < x24714.f2)))] rfl hb24744 (fun ac hA => y_move hA rfl rfl) rfl, puOn rfl rfl rfl rfl [(111, .bool (decide (x24585.f5 < x24714.f2))), (114, .slice B179 m180 d181), (115, .int .i64 x20659)] rfl hb24744 (fun ac hA => y_ia Tryd.underlying38 sz41 (hS.rd 2 rfl) h24586 hA rfl rfl rfl) rfl, puOn rfl rfl rfl rfl [(111, .bool (decide (x24585.f5 < x24714.f2))), (116, .pointer (some (ea B179 (x20659.toNat * 8))))] rfl hb24744 (fun ac hA => y_fae (m := x20659.toNat * 8) fa41_6 hA rfl rfl) rfl, puOn rfl rfl rfl rfl [(111, .bool (decide (x24585.f5 < x24714.f2))), (117, .pointer (some (ea B179 (x20659.toNat * 8 + 6))))] rfl hb24744 (fun ac hA => y_ld Tryd.underlying9 (hc24745 6 _ rfl) hA rfl rfl rfl) rfl, puOn rfl rfl rfl rfl [(111, .bool (decide (x24585.f5 < x24714.f2))), (113, str x24714.f3), (118, str x24585.f6)] rfl hb24744 (fun ac hA => r_ltS rfl (hA.ev rfl) (hA.ev rfl)) rfl, pu rfl rfl [(111, .bool (decide (x24585.f5 < x24714.f2))), (119, .bool (Op.bytesLess x24714.f3 x24585.f6))] (fun ac hA => y_pickf hb24744 hA rfl rfl rfl) rfl rfl, pu rfl rfl [(120, .bool (Op.bytesLess x24714.f3 x24585.f6))] (fun ac hA => y_move hA rfl rfl) rfl rfl, puOn rfl rfl rfl rfl [(18, .pointer (some ⟨g24717, 0, none⟩)), (121, .bool (Op.bytesLess x24714.f3 x24585.f6))] rfl hb24746 (fun ac hA => y_fab fa44_3 hA rfl rfl) rfl, puOn rfl rfl rfl rfl [(121, .bool (Op.bytesLess x24714.f3 x24585.f6)), (122, .pointer (some ⟨g24717, 3, none⟩))] rfl hb24746 (fun ac hA => y_ld Tryd.underlying9 (hS.cell 0 rfl 3 _ rfl) hA rfl rfl rfl) rfl, puOn rfl rfl rfl rfl [(13, .slice B179 m180 d181), (121, .bool (Op.bytesLess x24714.f3 x24585.f6))] rfl hb24746 (fun ac hA => y_move hA rfl rfl) rfl, puOn rfl rfl rfl rfl [(15, .int .i64 x20659), (121, .bool (Op.bytesLess x24714.f3 x24585.f6))] rfl hb24746 (fun ac hA => y_move hA rfl rfl) rfl, puOn rfl rfl rfl rfl [(121, .bool (Op.bytesLess x24714.f3 x24585.f6)), (124, .slice B179 m180 d181), (125, .int .i64 x20659)] rfl hb24746 (fun ac hA => y_ia Tryd.underlying38 sz41 (hS.rd 2 rfl) h24586 hA rfl rfl rfl) rfl, puOn rfl rfl rfl rfl [(121, .bool (Op.bytesLess x24714.f3 x24585.f6)), (126, .pointer (some (ea B179 (x20659.toNat * 8))))] rfl hb24746 (fun ac hA => y_fae (m := x20659.toNat * 8) fa41_7 hA rfl rfl) rfl, puOn rfl rfl rfl rfl [(121, .bool (Op.bytesLess x24714.f3 x24585.f6)), (127, .pointer (some (ea B179 (x20659.toNat * 8 + 7))))] rfl hb24746 (fun ac hA => y_ld Tryd.underlying9 (hc24747 7 _ rfl) hA rfl rfl rfl) rfl, puOn rfl rfl rfl rfl [(121, .bool (Op.bytesLess x24714.f3 x24585.f6)), (123, str x24714.f3), (128, str x24585.f7)] rfl hb24746 (fun ac hA => r_gtS rfl (hA.ev rfl) (hA.ev rfl)) rfl, pu rfl rfl [(121, .bool (Op.bytesLess x24714.f3 x24585.f6)), (129, .bool (!(Op.bytesLess x24714.f3 x24585.f7 || x24714.f3 == x24585.f7)))] (fun ac hA => y_pickf hb24746 hA rfl rfl rfl) rfl rfl, trivial⟩ ⟨by kernel_rfl, by kernel_rfl⟩ [(5, .pointer (some ⟨g102, 0, none⟩)), (8, .slice B133 m134 d135), (13, .slice B179 m180 d181), (14, .int .i64 x20658), (15, .int .i64 x20659), (16, .bool b24410), (17, .int .i64 x24411), (18, .pointer (some ⟨g24717, 0, none⟩)), (82, .pointer (some ⟨g24717, 0, none⟩)), (83, .int .u64 x24714.f0), (84, .slice B179 m180 d181), (85, .int .i64 x20659), (88, .int .u64 x24585.f3), (89, .bool (decide (x24585.f3 < x24714.f0))), (92, .pointer (some ⟨g24717, 2, none⟩)), (93, .int .i64 x24714.f2), (94, .slice B179 m180 d181), (95, .int .i64 x20659), (98, .int .i64 x24585.f4), (99, .bool (decide (x24714.f2 < x24585.f4))), (102, .pointer (some ⟨g24717, 2, none⟩)), (103, .int .i64 x24714.f2), (104, .slice B179 m180 d181), (105, .int .i64 x20659), (108, .int .i64 x24585.f5), (109, .bool (decide (x24585.f5 < x24714.f2))), (112, .pointer (some ⟨g24717, 3, none⟩)), (113, str x24714.f3), (114, .slice B179 m180 d181), (115, .int .i64 x20659), (118, str x24585.f6), (119, .bool (Op.bytesLess x24714.f3 x24585.f6)), (122, .pointer (some ⟨g24717, 3, none⟩)), (123, str x24714.f3), (124, .slice B179 m180 d181), (125, .int .i64 x20659), (128, str x24585.f7), (129, .bool (!(Op.bytesLess x24714.f3 x24585.f7 || x24714.f3 == x24585.f7))), (130, .bool (!(Op.bytesLess x24714.f3 x24585.f7 || x24714.f3 == x24585.f7)))] rfl (fun ac hA => ?_)
    replace hS := hS.pk 3
    replace hS := hS.pk 3
    replace hS := hS.pk 2
    replace hS := hS.pk 3
    exact hj3 (!(Op.bytesLess x24714.f3 x24585.f7 || x24714.f3 == x24585.f7)) hF ac w (hA.sub _ rfl) hS
   replace hF := iff' hb24588 hF
   refine wp_exit ?_
   cases hF
   exact hx24581_2 b24410 (T24581_ _ rfl) ac w (hA.sub _ rfl) hS
  replace hF := iff' hb22710 hF
  refine wp_exit ?_
  replace hS := hS.drop 0
  replace hS := hS.drop 0
  cases hF
  exact hx22706_0 x20658 (T22706_ _ rfl) ac w (hA.sub _ rfl) hS
 refine wp_reg ?_
 replace hS := hS.pk 1
 obtain ⟨y24748, h24749, hF⟩ := bnd hF
 refine x_call en10 hA (F_law07_awake (L := blk g102 33 [.int .u64 a2.f0, .int .u64 a2.f1, .int .i64 a2.f2, .int .i64 a2.f3] :: L) h24749 hG0 hS) (fun v ac w hR hA => ?_) rfl rfl rfl rfl rfl
 obtain ⟨Z24750, wz24751, rfl, h24752, hS⟩ := hR
 have h24753 := Imm.sub ha0 h24752
 refine x_v hA (r_not rfl (hA.ev rfl)) rfl fun ac hA => ?_
 refine x_m hA rfl fun ac hA => ?_
 refine bcase (b := !y24748) (fun hb24754 => ?_) fun hb24754 => ?_
 ·replace hF := ift hb24754 hF
  refine x_off hb24754 hA (fun ac hA => ?_) rfl rfl rfl rfl rfl
  refine x_off hb24754 hA (fun ac hA => ?_) rfl rfl rfl rfl rfl
  refine x_off hb24754 hA (fun ac hA => ?_) rfl rfl rfl rfl rfl
  refine x_pickt hb24754 hA (fun ac hA => ?_) rfl rfl rfl rfl rfl rfl
  refine wpList_nil ?_
  replace hS := hS.pk 1
  exact hj1 true hF Z24750 wz24751 h24752 h24753 ac w (hA.sub _ rfl) hS
 replace hF := iff' hb24754 hF
 refine x_on hb24754 hA ?_ rfl rfl rfl
 refine x_m hA rfl fun ac hA => ?_
 refine x_on hb24754 hA ?_ rfl rfl rfl
 refine x_len Tryd.underlying22 (hS.imm 0 h24753 rfl).2.1 hA (fun ac hA => ?_) rfl rfl rfl rfl rfl
 refine x_on hb24754 hA ?_ rfl rfl rfl
 refine x_v hA (r_gtI rfl (hA.ev rfl) (hA.ev rfl)) rfl fun ac hA => ?_
 refine x_pickf hb24754 hA (fun ac hA => ?_) rfl rfl rfl rfl rfl rfl
 refine wpList_nil ?_
 replace hS := hS.pk 1
 exact hj1 (decide (300 < (a0.length : Int))) hF Z24750 wz24751 h24752 h24753 ac w (hA.sub _ rfl) hS
end Go.Proofs.YteodeedejjcmgaaDoor.M
namespace Go.Proofs.YteodeedejjcmgaaDoor.segmentChunks
open Go Go.RowKit Go.ChangeShapes Go.WideShapes Go.ChangeAt Go.Proofs.YteodeedejjcmgaaDoor.E Go.Proofs.YteodeedejjcmgaaDoor.M
set_option linter.unusedVariables false
theorem own : ownKnob Tryd.prog.godebug = none := by kernel_rfl
theorem laidOut : laidOutB Tryd.prog = true := by kernel_rfl
theorem gN : Tryd.prog.globalNamed "headrace/page.table" = some 0 := by kernel_rfl
theorem gT : (Tryd.prog.globals[0]?).map (·.type) = some 130 := by kernel_rfl
theorem door_met (os : Os) (args : Array Value) : laidMetH Tryd.prog Rows.segmentChunksRow.laid ((World.doorLaid Tryd.prog 400 os).forCall (fun _ _ => 0) ⟨#[], args, []⟩).memory :=
  laidMetH_of_parts3 (fuel := 8) (laidMet_of_run' 8 (by kernel_rfl) (by kernel_rfl)) (by kernel_rfl) (by kernel_rfl)
theorem of_laid {W : World} (h : laidMetH Tryd.prog Rows.segmentChunksRow.laid W) : Imm (HeapZ W) W (kI .u32) (some ⟨0, 0, none⟩) 16 16 M.gl_page_table := by
  rw [MakeChecks.laidMetH_plain _ _ _ (by kernel_rfl)] at h
  exact tab_imm gN gT Tryd.underlying130 Tryd.underlying48 ce48 rfl (by decide) h
def Pure : Prop := ∀ (a0 : (List M.S44)) (a1 : Int) (a2 : M.S33), (gL 48 M.g44) a0 → (gI .u8) a1 → M.g33 a2 → M.law07_SegmentChunks a0 a1 a2 = some true
set_option maxRecDepth 100000 in
theorem lifted (hP : Pure) (os : Os) (started : os.Started) (H : Type) (enc : TypeId × Value → H) :
    ReturnsInHanded {} Tryd.checked os 4 .any (fun w args => (Rows.segmentChunksSpec.pre enc Tryd.prog Tryd.f4 [] false w args ∧ laidMetH Tryd.prog Rows.segmentChunksRow.laid w) ∧ sizedMet enc Tryd.prog Tryd.f4 (OpenSpec.ofChange Rows.segmentChunksSpec) false w args)
      (Rows.segmentChunksSpec.post enc Tryd.prog Tryd.f4 false true false false) := by
  refine returnsInHanded_of_change_and (C := Tryd.checked) (X := fun w _ => laidMetH Tryd.prog Rows.segmentChunksRow.laid w) (fun _ _ _ hh h => h.of_heap hh) own started (by kernel_rfl) Tryd.func4
    (ChangeSpec.witness_shaped (enc := enc) (C := Tryd.checked) (os := os) (X := fun w _ => laidMetH Tryd.prog Rows.segmentChunksRow.laid w) false (World.doorLaid Tryd.prog 400 os) #[.slice none 0 0, .int .u8 0, .agg #[.int .u64 0, .int .u64 0, .int .i64 0, .int .i64 0]] 8 rfl (World.shaped_of_RefB (by kernel_rfl) (by kernel_rfl)) (by kernel_rfl) (by kernel_rfl) (by kernel_rfl) (door_met os _)) ?_
  intro W base args ds gs before hval0 hW hcnd hsz0 hL _
  have hsz : (DataW.weightsEach Tryd.prog (Tryd.f4.params.toList ++ Rows.segmentChunksSpec.plain.varTypes Tryd.prog) (ds ++ gs)).all (· ≤ reachBytes) = true := hsz0
  have hval : ∀ (j : Nat) t v, Tryd.f4.params[j]? = some t → args[j]? = some v → Value.okWide Tryd.prog W .any base t v := hval0
  have hW' := hW
  obtain ⟨p, q, hA0, hV, rfl, hfz, hnd⟩ := hW
  have hA : DataW.TrodAll enc Tryd.prog W 0 (fun _ => true) true Tryd.f4.params.toList args.toList ds p := hA0
  rw [Tryd.params4] at hA hval hsz
  obtain ⟨v0, vs0, d0, ds0, p0, q0, hargs, rfl, rfl, h0, r0⟩ := trodAll_cons hA
  obtain ⟨v1, vs1, d1, ds1, p1, q1, rfl, rfl, rfl, h1, r1⟩ := trodAll_cons r0
  obtain ⟨v2, vs2, d2, ds2, p2, q2, rfl, rfl, rfl, h2, r2⟩ := trodAll_cons r1
  obtain ⟨rfl, rfl, rfl⟩ := trodAll_nil r2
  obtain rfl : args = #[v0, v1, v2] := by cases args; simp_all
  obtain ⟨rfl, rfl⟩ := trodVars_none hV
  have k0 := h0
  have lt0 : ∀ x ∈ p0, x.block < W.heap.size := by obtain ⟨m, hm⟩ := k0; exact DataW.trod_lt m _ _ _ hm
  obtain ⟨x0, hx0, g0⟩ := Opens.arg (opSl Tryd.underlying22 ce44 (Nat.succ_pos _) by44 op44) h0 (Wt.of hsz (j := 0) rfl rfl)
  obtain ⟨A0, n0, c0, rfl⟩ := okWide_slice Tryd.underlying22 (hval 0 22 v0 rfl rfl)
  obtain ⟨A0', n0', c0', he0, i0⟩ := hx0
  cases (show [Value.slice A0 n0 c0] = [Value.slice A0' n0' c0'] from he0)
  have k1 := h1
  have lt1 : ∀ x ∈ p1, x.block < W.heap.size := by obtain ⟨m, hm⟩ := k1; exact DataW.trod_lt m _ _ _ hm
  obtain ⟨x1, hx1, g1⟩ := Opens.arg (opI Tryd.underlying5) h1 (Wt.of hsz (j := 1) rfl rfl)
  obtain ⟨u1, rfl⟩ := okWide_int Tryd.underlying5 (hval 1 5 v1 rfl rfl)
  cases (show [Value.int .u8 u1] = [Value.int .u8 x1] from hx1)
  have k2 := h2
  have lt2 : ∀ x ∈ p2, x.block < W.heap.size := by obtain ⟨m, hm⟩ := k2; exact DataW.trod_lt m _ _ _ hm
  obtain ⟨x2, hx2, g2⟩ := Opens.arg op33 h2 (Wt.of hsz (j := 2) rfl rfl)
  obtain ⟨⟨u2⟩, rfl, _⟩ := okWide_struct Tryd.underlying33 (hval 2 33 v2 rfl rfl)
  cases (show u2 = [.int .u64 x2.f0, .int .u64 x2.f1, .int .i64 x2.f2, .int .i64 x2.f3] from hx2)
  clear hA0 hval0 hsz0 hsz
  refine Calls.mono (M.F_law07_SegmentChunks (Z := HeapZ W) (wz := W) x0 x1 x2 A0 n0 c0 (hP x0 x1 x2 g0 g1 g2) i0 (of_laid hL) (L := []) (SH.start W)) ?_
  rintro e W' ⟨v, rfl, Z', wz', rfl, hs, hS⟩
  have bel := SH.below hS hs
  exact ⟨_, rfl, _, _, _, [], _, [], hW', trodAll_mk1 (shut_bool Tryd.underlying4 _), (trodAll_cons_mk (Below.trod laidOut (by kernel_rfl) (of_decide_eq_true (by kernel_rfl)) k0 bel lt0) (trodAll_cons_mk (Below.trod laidOut (by kernel_rfl) (of_decide_eq_true (by kernel_rfl)) k1 bel lt1) (trodAll_cons_mk (Below.trod laidOut (by kernel_rfl) (of_decide_eq_true (by kernel_rfl)) k2 bel lt2) trodAll_mk0))), rfl, bel.frame _, fun h => by cases h⟩
theorem over (hP : Pure) : Rows.segmentChunksRow.holds Tryd.pinned (OpenSpec.ofChange Rows.segmentChunksSpec) :=
  OpenClaim.holds_of_wide 4 Tryd.f4 rfl rfl rfl rfl rfl rfl rfl ⟨rfl, rfl, rfl, rfl, rfl⟩ rfl rfl rfl rfl rfl (by kernel_rfl) Tryd.func4 (by kernel_rfl)
    (of_decide_eq_true (by kernel_rfl)) (by unfold Func.isWrapper; first | (rw [if_pos (by decide +kernel)]; kernel_rfl) | (rw [if_neg (by decide +kernel)]; exact ⟨rfl, rfl⟩))
    (fun os started H enc _ => lifted hP os started H enc)
def hrn : Bool × String := Rows.segmentChunksCard.stood.harness
theorem card (hP : Pure) : Rows.SegmentChunksCardSaid :=
  Claim7.holds_tied_plain_at .later [] [.data] true hrn true
    (over hP) (fun _ h => by cases h) (by kernel_rfl) (fun _ h => by cases h) segmentChunks_row_tie rfl ⟨rfl, rfl⟩ (by kernel_rfl) rfl
    (fun f fn hf hfn => by
      obtain rfl : f = 4 := Option.some.inj ((show Tryd.prog.funcNamed "headrace/headracelaw07.SegmentChunks" = some 4 by kernel_rfl).symm.trans hf) |>.symm
      obtain rfl : fn = Tryd.f4 := (Option.some.inj (Tryd.func4.symm.trans hfn)).symm
      exact ⟨by kernel_rfl, fun j t ht => by
        rw [Tryd.params4] at ht
        have hm : t ∈ [22, 5, 33] := by simpa using Array.mem_of_getElem? ht
        have hall : ([22, 5, 33].all fun u => !Tryd.prog.wantsStandIn u) = true := by kernel_rfl
        exact (show Tryd.prog.wantsStandIn t = false by simpa using List.all_eq_true.1 hall t hm)⟩)
    (by kernel_rfl)
end Go.Proofs.YteodeedejjcmgaaDoor.segmentChunks
namespace Go.Proofs.YteodeedejjcmgaaDoor.P
open Go Go.RowKit Go.Proofs.YteodeedejjcmgaaDoor.E Go.Proofs.YteodeedejjcmgaaDoor.M
set_option linter.unusedVariables false
set_option linter.unusedSectionVars false
theorem at_nat {α : Type} (xs : List α) (n : Nat) : at_ xs (n : Int) = xs[n]? := by simp [at_]
theorem at_int {α : Type} {xs : List α} {i : Int} {n : Nat} {x : α} (hi : i = n) (h : xs[n]? = some x) : at_ xs i = some x := by subst hi; rw [at_nat, h]
theorem cut_nat {α : Type} {xs : List α} {l u : Nat} (h : l ≤ u) (hu : u ≤ xs.length) : cut_ xs (l : Int) (u : Int) = some ((xs.take u).drop l) := by
  unfold cut_; rw [if_pos (by omega)]; simp
theorem chk_pos {α : Type} {p : Prop} [Decidable p] {x : Option α} (h : p) : chk p x = x := if_pos h
theorem w64 {n : Int} (h : -9223372036854775808 ≤ n) (h' : n ≤ 9223372036854775807) : IntKind.i64.wrap n = n := IntWalk.i64_in n ⟨h, h'⟩
theorem u64w {n : Int} (h : 0 ≤ n) (h' : n < 18446744073709551616) : IntKind.u64.wrap n = n := IntWalk.u64_in n ⟨h, by omega⟩
theorem u8w {n : Int} (h : 0 ≤ n) (h' : n < 256) : IntKind.u8.wrap n = n := IntWalk.u8_in n ⟨h, by omega⟩
theorem lt_ {α β : Type} (e : α) (f : α → Option β) : ltt e f = f e := rfl
theorem loop_at {σ τ : Type} {b : σ → Option (σ ⊕ τ)} (f : Nat → σ) {t : τ} : ∀ (n : Nat) (i : Nat), (∀ k, i ≤ k → k < i + n → b (f k) = some (.inl (f (k + 1)))) → b (f (i + n)) = some (.inr t) → loop b (f i) = some t
  | 0, i, _, he => loop_end he
  | n + 1, i, hs, he => (loop_nxt (hs i (Nat.le_refl _) (by omega))).trans (loop_at f n (i + 1) (fun k h1 h2 => hs k (by omega) (by omega)) (by rw [show i + 1 + n = i + (n + 1) by omega]; exact he))
theorem loop_to {σ τ : Type} {b : σ → Option (σ ⊕ τ)} (f : Nat → σ) {t : τ} (n : Nat) (hs : ∀ k, k < n → b (f k) = some (.inl (f (k + 1)))) (he : b (f n) = some (.inr t)) : loop b (f 0) = some t :=
  loop_at f n 0 (fun k _ h => hs k (by omega)) (by simpa using he)
theorem ofInt_nat (n a : Nat) : BitVec.ofInt n (a : Int) = BitVec.ofNat n a := BitVec.ofInt_natCast n a
theorem u64_nat (a : Nat) : IntKind.u64.wrap (a : Int) = ((a % 18446744073709551616 : Nat) : Int) := by
  rw [IntKind.wrap_u64]; omega
theorem u8_nat (a : Nat) : IntKind.u8.wrap (a : Int) = ((a % 256 : Nat) : Int) := by rw [IntKind.wrap_u8]; omega
theorem iand_u64 {a b : Nat} (ha : a < 18446744073709551616) (hb : b < 18446744073709551616) : iand .u64 (a : Int) (b : Int) = ((a &&& b : Nat) : Int) := by
  unfold iand
  rw [ofInt_nat, ofInt_nat, u64_nat]
  have h : a &&& b < 18446744073709551616 := Nat.lt_of_le_of_lt Nat.and_le_left ha
  simp only [BitVec.toNat_and, BitVec.toNat_ofNat, show IntKind.u64.bits = 64 from rfl]
  rw [Nat.mod_eq_of_lt (show a < 2 ^ 64 by omega), Nat.mod_eq_of_lt (show b < 2 ^ 64 by omega), Nat.mod_eq_of_lt h]
theorem iand_u8 {a b : Nat} (ha : a < 256) (hb : b < 256) : iand .u8 (a : Int) (b : Int) = ((a &&& b : Nat) : Int) := by
  unfold iand
  rw [ofInt_nat, ofInt_nat, u8_nat]
  have h : a &&& b < 256 := Nat.lt_of_le_of_lt Nat.and_le_left ha
  simp only [BitVec.toNat_and, BitVec.toNat_ofNat, show IntKind.u8.bits = 8 from rfl]
  rw [Nat.mod_eq_of_lt (show a < 2 ^ 8 by omega), Nat.mod_eq_of_lt (show b < 2 ^ 8 by omega), Nat.mod_eq_of_lt h]
theorem ior_u64 {a b : Nat} (ha : a < 18446744073709551616) (hb : b < 18446744073709551616) : ior .u64 (a : Int) (b : Int) = ((a ||| b : Nat) : Int) := by
  unfold ior
  rw [ofInt_nat, ofInt_nat, u64_nat]
  have h : a ||| b < 2 ^ 64 := Nat.or_lt_two_pow (show a < 2 ^ 64 by omega) (show b < 2 ^ 64 by omega)
  simp only [BitVec.toNat_or, BitVec.toNat_ofNat, show IntKind.u64.bits = 64 from rfl]
  rw [Nat.mod_eq_of_lt (show a < 2 ^ 64 by omega), Nat.mod_eq_of_lt (show b < 2 ^ 64 by omega), Nat.mod_eq_of_lt (show a ||| b < 18446744073709551616 from h)]
theorem ior_u8 {a b : Nat} (ha : a < 256) (hb : b < 256) : ior .u8 (a : Int) (b : Int) = ((a ||| b : Nat) : Int) := by
  unfold ior
  rw [ofInt_nat, ofInt_nat, u8_nat]
  have h : a ||| b < 2 ^ 8 := Nat.or_lt_two_pow (show a < 2 ^ 8 by omega) (show b < 2 ^ 8 by omega)
  simp only [BitVec.toNat_or, BitVec.toNat_ofNat, show IntKind.u8.bits = 8 from rfl]
  rw [Nat.mod_eq_of_lt (show a < 2 ^ 8 by omega), Nat.mod_eq_of_lt (show b < 2 ^ 8 by omega), Nat.mod_eq_of_lt (show a ||| b < 256 from h)]
theorem ixor_u64 {a b : Nat} (ha : a < 18446744073709551616) (hb : b < 18446744073709551616) : ixor .u64 (a : Int) (b : Int) = ((a ^^^ b : Nat) : Int) := by
  unfold ixor
  rw [ofInt_nat, ofInt_nat, u64_nat]
  have h : a ^^^ b < 2 ^ 64 := Nat.xor_lt_two_pow (show a < 2 ^ 64 by omega) (show b < 2 ^ 64 by omega)
  simp only [BitVec.toNat_xor, BitVec.toNat_ofNat, show IntKind.u64.bits = 64 from rfl]
  rw [Nat.mod_eq_of_lt (show a < 2 ^ 64 by omega), Nat.mod_eq_of_lt (show b < 2 ^ 64 by omega), Nat.mod_eq_of_lt (show a ^^^ b < 18446744073709551616 from h)]
theorem two_pow (n : Nat) : (2 : Int) ^ n = ((2 ^ n : Nat) : Int) := (Int.natCast_pow 2 n).symm
theorem ishr_nat {k : IntKind} (a n : Nat) (h : n ≤ k.bits) : ishr k (a : Int) (n : Int) = ((a / 2 ^ n : Nat) : Int) := by
  unfold ishr
  rw [Int.toNat_natCast, Nat.min_eq_left h, two_pow, Int.fdiv_eq_ediv_of_nonneg _ (Int.natCast_nonneg _)]
  rfl
theorem ishl_u64 (a n : Nat) (h : n ≤ 64) : ishl .u64 (a : Int) (n : Int) = ((a * 2 ^ n % 18446744073709551616 : Nat) : Int) := by
  unfold ishl
  rw [Int.toNat_natCast, show min n IntKind.u64.bits = n from Nat.min_eq_left h, two_pow, ← Int.natCast_mul, u64_nat]
theorem ishl_u8 (a n : Nat) (h : n ≤ 8) : ishl .u8 (a : Int) (n : Int) = ((a * 2 ^ n % 256 : Nat) : Int) := by
  unfold ishl
  rw [Int.toNat_natCast, show min n IntKind.u8.bits = n from Nat.min_eq_left h, two_pow, ← Int.natCast_mul, u8_nat]
theorem or_top {a n : Nat} (h : a < 2 ^ n) (b : Nat) : a ||| (b * 2 ^ n) = a + b * 2 ^ n := by
  rw [Nat.or_comm, Nat.mul_comm, ← Nat.two_pow_add_eq_or_of_lt h, Nat.add_comm]
end Go.Proofs.YteodeedejjcmgaaDoor.P
namespace Go.Proofs.YteodeedejjcmgaaDoor.P
open Go Go.RowKit Go.Proofs.YteodeedejjcmgaaDoor.E Go.Proofs.YteodeedejjcmgaaDoor.M
set_option linter.unusedVariables false
set_option linter.unusedSectionVars false
def uv (n : Nat) : List Int := if h : n < 128 then [(n : Int)] else ((n % 128 + 128 : Nat) : Int) :: uv (n / 128)
termination_by n
decreasing_by omega
theorem uv_small {n : Nat} (h : n < 128) : uv n = [(n : Int)] := by rw [uv, dif_pos h]
theorem uv_large {n : Nat} (h : ¬ n < 128) : uv n = ((n % 128 + 128 : Nat) : Int) :: uv (n / 128) := by rw [uv, dif_neg h]
theorem uv_length : ∀ (k n : Nat), n < 128 ^ (k + 1) → (uv n).length ≤ k + 1
  | 0, n, h => by rw [uv_small (by simpa using h)]; simp
  | k + 1, n, h => by
    by_cases hn : n < 128
    · rw [uv_small hn]; simp
    · rw [uv_large hn, List.length_cons]
      have := uv_length k (n / 128) (by rw [Nat.pow_succ] at h; exact Nat.div_lt_of_lt_mul (by rw [Nat.mul_comm]; exact h))
      omega
theorem uv_length64 {n : Nat} (h : n < 18446744073709551616) : (uv n).length ≤ 10 := uv_length 9 n (by omega)
set_option maxRecDepth 100000 in
theorem or_128 : ∀ m : Fin 256, (m.val ||| 128) = m.val % 128 + 128 := by decide
theorem Uint_app (n : Nat) : ∀ (a0 : List Int), n < 18446744073709551616 → a0.length + (uv n).length ≤ 140737488355328 → column_Uint a0 (n : Int) = some (a0 ++ uv n) := by
  induction n using Nat.strongRecOn with
  | _ n ih =>
    intro a0 h hl
    unfold column_Uint
    by_cases hn : n < 128
    · rw [loop_end (t := (a0, (n : Int))) (by
        show column_Uint_l1 a0 (n : Int) = _
        unfold column_Uint_l1
        rw [if_neg (by simp only [decide_eq_true_eq]; omega)])]
      simp only [Option.bind_some]
      unfold column_Uint_x1_0 column_Uint_b1
      rw [uv_small hn] at hl ⊢
      rw [lt_, u8w (by omega) (by omega), chk_pos (by simpa using hl)]
    · have hl' := hl
      rw [uv_large hn, List.length_cons] at hl'
      have e1 : IntKind.u8.wrap (n : Int) = ((n % 256 : Nat) : Int) := u8_nat n
      have e2 : ior .u8 ((n % 256 : Nat) : Int) 128 = ((n % 128 + 128 : Nat) : Int) := by
        have := ior_u8 (a := n % 256) (b := 128) (by omega) (by omega)
        rw [show ((128 : Nat) : Int) = 128 from rfl] at this
        rw [this, or_128 ⟨n % 256, by omega⟩]
        simp only
        omega
      have e3 : ishr .u64 (n : Int) 7 = ((n / 128 : Nat) : Int) := ishr_nat (k := .u64) n 7 (by decide)
      rw [loop_nxt (s' := (a0 ++ [((n % 128 + 128 : Nat) : Int)], ((n / 128 : Nat) : Int))) (by
        show column_Uint_l1 a0 (n : Int) = _
        unfold column_Uint_l1
        rw [if_pos (by simp only [decide_eq_true_eq]; omega), lt_, e1, lt_, e2, chk_pos (by simp; omega), lt_, e3])]
      have := ih (n / 128) (by omega) (a0 ++ [((n % 128 + 128 : Nat) : Int)]) (by omega) (by simp; omega)
      unfold column_Uint at this
      rw [this, uv_large hn]
      simp
def zz (i : Int) : Nat := if i < 0 then (-(i + 1)).toNat * 2 + 1 else i.toNat * 2
def uz (n : Nat) : Int := if n % 2 = 1 then -((n / 2 : Nat) : Int) - 1 else ((n / 2 : Nat) : Int)
theorem uz_zz (i : Int) : uz (zz i) = i := by unfold uz zz; split <;> split <;> omega
def i64 (i : Int) : Prop := -9223372036854775808 ≤ i ∧ i ≤ 9223372036854775807
theorem zz_lt {i : Int} (h : i64 i) : zz i < 18446744073709551616 := by
  unfold i64 at h
  unfold zz; split <;> omega
theorem i64_wrap (x : Int) : i64 (IntKind.i64.wrap x) := by
  rw [IntWalk.i64_left]; unfold wrap64 i64; omega
theorem xor_ones {a : Nat} (h : a < 18446744073709551616) : ixor .u64 (a : Int) 18446744073709551615 = ((18446744073709551615 - a : Nat) : Int) := by
  show IntKind.u64.wrap (((BitVec.ofInt 64 (a : Int) ^^^ BitVec.allOnes 64).toNat : Nat) : Int) = _
  rw [ofInt_nat, BitVec.xor_allOnes, u64_nat, BitVec.toNat_not, BitVec.toNat_ofNat, Nat.mod_eq_of_lt (show a < 2 ^ 64 by omega)]
  omega
theorem zz_eq {i : Int} (h : i64 i) : ixor .u64 (IntKind.u64.wrap (ishl .i64 i 1)) (IntKind.u64.wrap (ishr .i64 i 63)) = (zz i : Int) := by
  unfold i64 at h
  have e1 : ishl .i64 i 1 = IntKind.i64.wrap (i * 2) := rfl
  have e2 : ishr .i64 i 63 = if i < 0 then -1 else 0 := by
    unfold ishr
    rw [show (63 : Int).toNat = 63 from rfl, show min 63 IntKind.i64.bits = 63 from rfl, Int.fdiv_eq_ediv_of_nonneg _ (by decide)]
    split <;> omega
  rw [e1, e2]
  have e3 : IntKind.u64.wrap (IntKind.i64.wrap (i * 2)) = (i * 2) % 18446744073709551616 := by
    rw [IntKind.wrap_u64, IntWalk.i64_left]; unfold wrap64; omega
  rw [e3]
  unfold zz
  by_cases hi : i < 0
  · rw [if_pos hi, if_pos hi, show IntKind.u64.wrap (-1) = 18446744073709551615 from rfl]
    obtain ⟨m, hm⟩ : ∃ m : Nat, (i * 2) % 18446744073709551616 = (m : Int) := ⟨((i * 2) % 18446744073709551616).toNat, by omega⟩
    rw [hm, xor_ones (by omega)]
    omega
  · rw [if_neg hi, if_neg hi, show IntKind.u64.wrap 0 = ((0 : Nat) : Int) from rfl]
    obtain ⟨m, hm⟩ : ∃ m : Nat, (i * 2) % 18446744073709551616 = (m : Int) := ⟨((i * 2) % 18446744073709551616).toNat, by omega⟩
    rw [hm, ixor_u64 (by omega) (by omega), Nat.xor_zero]
    omega
theorem Int_app {i : Int} (h : i64 i) (a0 : List Int) (hl : a0.length + 10 ≤ 140737488355328) : column_Int a0 i = some (a0 ++ uv (zz i)) := by
  unfold column_Int
  have := uv_length64 (zz_lt h)
  simp only [lt_, zz_eq h, Uint_app _ a0 (zz_lt h) (by omega), Option.bind_some]
theorem Text_app (s : List UInt8) (a0 : List Int) (hs : s.length ≤ 9223372036854775807) (hl : a0.length + s.length + 10 ≤ 140737488355328) : column_Text a0 s = some (a0 ++ uv s.length ++ stb s) := by
  unfold column_Text
  have := uv_length64 (n := s.length) (by omega)
  rw [lt_, u64w (by omega) (by omega), Uint_app _ a0 (by omega) (by omega)]
  simp only [Option.bind_some]
  rw [chk_pos (by simp; omega)]
def Bs (xs : List Int) : Prop := ∀ b ∈ xs, 0 ≤ b ∧ b < 256
theorem Bs.nil : Bs [] := fun _ h => by cases h
theorem Bs.cons {b : Int} {xs : List Int} (h : Bs (b :: xs)) : (0 ≤ b ∧ b < 256) ∧ Bs xs := ⟨h b List.mem_cons_self, fun c hc => h c (List.mem_cons_of_mem _ hc)⟩
theorem Bs.mk {b : Int} {xs : List Int} (hb : 0 ≤ b ∧ b < 256) (h : Bs xs) : Bs (b :: xs) := fun c hc => by
  rcases List.mem_cons.1 hc with rfl | hc
  · exact hb
  · exact h c hc
theorem Bs.app {xs ys : List Int} (h : Bs xs) (h' : Bs ys) : Bs (xs ++ ys) := fun c hc => (List.mem_append.1 hc).elim (h c) (h' c)
theorem Bs.l {xs ys : List Int} (h : Bs (xs ++ ys)) : Bs xs := fun c hc => h c (List.mem_append.2 (.inl hc))
theorem Bs.r {xs ys : List Int} (h : Bs (xs ++ ys)) : Bs ys := fun c hc => h c (List.mem_append.2 (.inr hc))
theorem Bs.drop {xs : List Int} (h : Bs xs) (n : Nat) : Bs (xs.drop n) := fun c hc => h c (List.mem_of_mem_drop hc)
theorem Bs.take {xs : List Int} (h : Bs xs) (n : Nat) : Bs (xs.take n) := fun c hc => h c (List.mem_of_mem_take hc)
theorem Bs.uv (n : Nat) : Bs (uv n) := by
  induction n using Nat.strongRecOn with
  | _ n ih =>
    by_cases hn : n < 128
    · rw [uv_small hn]; exact Bs.mk (by omega) Bs.nil
    · rw [uv_large hn]; exact Bs.mk (by omega) (ih _ (by omega))
theorem Bs.stb (s : List UInt8) : Bs (stb s) := by
  intro c hc
  unfold E.stb at hc
  obtain ⟨b, _, rfl⟩ := List.mem_map.1 hc
  have := b.toNat_lt
  omega
end Go.Proofs.YteodeedejjcmgaaDoor.P
namespace Go.Proofs.YteodeedejjcmgaaDoor.P
open Go Go.RowKit Go.Proofs.YteodeedejjcmgaaDoor.E Go.Proofs.YteodeedejjcmgaaDoor.M
set_option linter.unusedVariables false
set_option linter.unusedSectionVars false
def pB : List Int → Option (Int × List Int)
  | [] => none
  | b :: r => some (b, r)
def pV (i n : Nat) : List Int → Option (Nat × List Int)
  | [] => none
  | b :: r => if i < 9 ∨ (i = 9 ∧ b < 2) then
      (if b < 128 then (if i = 0 ∨ 0 < b then some (n + b.toNat % 128 * 2 ^ (7 * i), r) else none) else pV (i + 1) (n + b.toNat % 128 * 2 ^ (7 * i)) r)
    else none
def pU (most : Int) (xs : List Int) : Option (Int × List Int) := match pV 0 0 xs with
  | some (n, r) => if (n : Int) ≤ most then some ((n : Int), r) else none
  | none => none
def pI (xs : List Int) : Option (Int × List Int) := match pU 18446744073709551615 xs with
  | some (n, r) => some (uz n.toNat, r)
  | none => none
def pT (most : Int) (xs : List Int) : Option (List UInt8 × List Int) := match pU (IntKind.u64.wrap most) xs with
  | some (n, r) => if n ≤ (r.length : Int) then some (bts (r.take n.toNat), r.drop n.toNat) else none
  | none => none
def IsR {ρ : Type} (o : Option ((ρ × S106) ⊕ S106)) (p : Option (ρ × List Int)) : Prop :=
  match p with
  | some (a, r) => o = some (.inl (a, ⟨r⟩))
  | none => ∃ s, o = some (.inr s)
theorem IsR.cases {ρ : Type} {o : Option ((ρ × S106) ⊕ S106)} {p : Option (ρ × List Int)} (h : IsR o p) : (∃ a r, p = some (a, r) ∧ o = some (.inl (a, ⟨r⟩))) ∨ (p = none ∧ ∃ s, o = some (.inr s)) := by
  unfold IsR at h
  split at h
  · exact .inl ⟨_, _, rfl, h⟩
  · exact .inr ⟨rfl, h⟩
theorem s_inl {α β γ : Type} (a : α) (f : α → Option γ) (g : β → Option γ) : sum_ (.inl a) f g = f a := rfl
theorem Check_t (s : S106) : column_Reader_Check s true = some (.inl s) := rfl
theorem Check_f (s : S106) : column_Reader_Check s false = some (.inr s) := rfl
theorem Byte_is (xs : List Int) : IsR (column_Reader_Byte ⟨xs⟩) (pB xs) := by
  unfold column_Reader_Byte
  cases xs with
  | nil => exact ⟨_, rfl⟩
  | cons b r =>
    rw [show decide (0 < (((⟨b :: r⟩ : S106).f0.length : Nat) : Int)) = true by simp, Check_t]
    simp only [Option.bind_some, s_inl]
    have h1 : at_ (b :: r) 0 = some b := rfl
    have h2 : cut_ (b :: r) 1 ((b :: r).length : Int) = some r := by
      have := cut_nat (xs := b :: r) (l := 1) (u := (b :: r).length) (by simp) (Nat.le_refl _)
      rw [show ((1 : Nat) : Int) = 1 from rfl, List.take_length] at this
      exact this
    rw [h1]
    simp only [Option.bind_some]
    rw [h2]
    rfl
theorem and_127 (a : Nat) : a &&& 127 = a % 128 := Nat.and_two_pow_sub_one_eq_mod a 7
theorem pV_lt : ∀ (xs : List Int) (i n m : Nat) (r : List Int), n < 2 ^ (7 * i) → n < 18446744073709551616 → pV i n xs = some (m, r) → m < 18446744073709551616 ∧ ∃ p, xs = p ++ r ∧ 0 < p.length
  | [], i, n, m, r, _, _, h => by cases h
  | b :: xs, i, n, m, r, h1, h2, h => by
    unfold pV at h
    split at h
    · rename_i hc
      have hlt : n + b.toNat % 128 * 2 ^ (7 * i) < 18446744073709551616 ∧ n + b.toNat % 128 * 2 ^ (7 * i) < 2 ^ (7 * (i + 1)) := by
        have hp : 2 ^ (7 * (i + 1)) = 128 * 2 ^ (7 * i) := by rw [show 7 * (i + 1) = 7 + 7 * i by omega, Nat.pow_add]
        have hm : b.toNat % 128 * 2 ^ (7 * i) ≤ 127 * 2 ^ (7 * i) := Nat.mul_le_mul_right _ (by omega)
        refine ⟨?_, by rw [hp]; omega⟩
        rcases hc with hc | ⟨hc, hb⟩
        · have : 2 ^ (7 * i) ≤ 2 ^ 56 := Nat.pow_le_pow_right (by decide) (by omega)
          omega
        · subst hc
          have : b.toNat % 128 * 2 ^ (7 * 9) ≤ 1 * 2 ^ (7 * 9) := Nat.mul_le_mul_right _ (by omega)
          omega
      split at h
      · split at h
        · cases h
          exact ⟨hlt.1, [b], rfl, by simp⟩
        · cases h
      · obtain ⟨q1, p, rfl, q3⟩ := pV_lt xs (i + 1) _ m r hlt.2 hlt.1 h
        exact ⟨q1, b :: p, rfl, by simp⟩
    · cases h
theorem Uloop (most : Int) : ∀ (xs : List Int) (i n : Nat), Bs xs → i ≤ 10 → n < 2 ^ (7 * i) → n < 18446744073709551616 →
    IsR (loop (fun s : List Int × Int × Int => column_Reader_Uint_l1 most s.1 s.2.1 s.2.2) (xs, (n : Int), (i : Int))) (match pV i n xs with | some (m, r) => if (m : Int) ≤ most then some ((m : Int), r) else none | none => none)
  | [], i, n, hB, hi, h1, h2 => ⟨⟨[]⟩, loop_end rfl⟩
  | b :: xs, i, n, hB, hi, h1, h2 => by
    obtain ⟨hb, hB'⟩ := hB.cons
    generalize hpv : pV i n (b :: xs) = pv
    have hby : column_Reader_Byte ⟨b :: xs⟩ = some (.inl (b, ⟨xs⟩)) := Byte_is (b :: xs)
    obtain ⟨c, rfl⟩ : ∃ c : Nat, b = (c : Int) := ⟨b.toNat, by omega⟩
    have hcase : (c : Int) < 128 ∨ 128 ≤ (c : Int) := by omega
    by_cases hc : i < 9 ∨ (i = 9 ∧ (c : Int) < 2)
    · -- the byte is taken
      have hp : 2 ^ (7 * (i + 1)) = 128 * 2 ^ (7 * i) := by rw [show 7 * (i + 1) = 7 + 7 * i by omega, Nat.pow_add]
      have hm : c % 128 * 2 ^ (7 * i) ≤ 127 * 2 ^ (7 * i) := Nat.mul_le_mul_right _ (by omega)
      have hlt : c % 128 * 2 ^ (7 * i) < 18446744073709551616 ∧ n + c % 128 * 2 ^ (7 * i) < 18446744073709551616 := by
        rcases hc with hc | ⟨hc, hb⟩
        · have : 2 ^ (7 * i) ≤ 2 ^ 56 := Nat.pow_le_pow_right (by decide) (by omega)
          omega
        · subst hc
          have : c % 128 * 2 ^ (7 * 9) ≤ 1 * 2 ^ (7 * 9) := Nat.mul_le_mul_right _ (by omega)
          omega
      have hlt2 : n + c % 128 * 2 ^ (7 * i) < 2 ^ (7 * (i + 1)) := by rw [hp]; omega
      obtain ⟨m, hm'⟩ : ∃ m, m = n + c % 128 * 2 ^ (7 * i) := ⟨_, rfl⟩
      have e1 : iand .u8 (c : Int) 127 = ((c % 128 : Nat) : Int) := by
        have := iand_u8 (a := c) (b := 127) (by omega) (by omega)
        rw [show ((127 : Nat) : Int) = 127 from rfl] at this
        rw [this, and_127]
      have e2 : IntKind.i64.wrap (7 * (i : Int)) = ((7 * i : Nat) : Int) := by rw [w64 (by omega) (by omega)]; omega
      have e3 : ishl .u64 ((c % 128 : Nat) : Int) ((7 * i : Nat) : Int) = ((c % 128 * 2 ^ (7 * i) : Nat) : Int) := by
        rw [ishl_u64 _ _ (by omega), Nat.mod_eq_of_lt hlt.1]
      have e4 : ior .u64 (n : Int) ((c % 128 * 2 ^ (7 * i) : Nat) : Int) = (m : Int) := by rw [ior_u64 h2 hlt.1, or_top h1, hm']
      have hl1 : column_Reader_Uint_l1 most ((c : Int) :: xs) (n : Int) (i : Int) = column_Reader_Uint_j1 most (n : Int) (i : Int) ((c : Int), ⟨xs⟩) xs := by
        unfold column_Reader_Uint_l1
        rw [hby]
        simp only [Option.bind_some, s_inl]
        rcases hc with hc | ⟨hc, hc2⟩
        · rw [if_pos (by simp only [decide_eq_true_eq]; omega), Check_t]; rfl
        · rw [if_neg (by simp only [decide_eq_true_eq]; omega), if_pos (by subst hc; rfl), show decide ((c : Int) < 2) = true by simpa using hc2, Check_t]; rfl
      have hj : column_Reader_Uint_j1 most (n : Int) (i : Int) ((c : Int), ⟨xs⟩) xs = if (c : Int) < 128 then (if (m : Int) ≤ most ∧ (i = 0 ∨ 0 < (c : Int)) then some (.inr (.inl ((m : Int), ⟨xs⟩))) else some (.inr (.inr ⟨xs⟩))) else some (.inl (xs, (m : Int), ((i + 1 : Nat) : Int))) := by
        unfold column_Reader_Uint_j1
        simp only [lt_]
        rw [e1, u64w (by omega) (by omega), e2, chk_pos (by omega), e3, e4]
        by_cases hc1 : (c : Int) < 128
        · rw [if_pos (by simpa using hc1), if_pos hc1]
          by_cases hmo : (m : Int) ≤ most
          · rw [if_pos (by simpa using hmo)]
            by_cases hi0 : i = 0
            · subst hi0
              rw [if_pos (by rfl), Check_t, if_pos ⟨hmo, .inl rfl⟩]
              rfl
            · rw [if_neg (by simpa using hi0)]
              by_cases hc0 : 0 < (c : Int)
              · rw [show decide (0 < (c : Int)) = true by simpa using hc0, Check_t, if_pos ⟨hmo, .inr hc0⟩]; rfl
              · rw [show decide (0 < (c : Int)) = false by simpa using hc0, Check_f, if_neg (by rintro ⟨_, q | q⟩; exact hi0 q; exact hc0 q)]; rfl
          · rw [if_neg (by simpa using hmo), Check_f, if_neg (fun q => hmo q.1)]; rfl
        · rw [if_neg (by simpa using hc1), if_neg hc1, w64 (by omega) (by omega)]; rfl
      rw [pV, if_pos hc, Int.toNat_natCast, ← hm'] at hpv
      rcases hcase with hc1 | hc1
      · rw [if_pos hc1] at hj hpv
        by_cases h0 : i = 0 ∨ 0 < (c : Int)
        · rw [if_pos h0] at hpv
          subst hpv
          simp only
          by_cases hmo : (m : Int) ≤ most
          · rw [if_pos ⟨hmo, h0⟩] at hj
            rw [if_pos hmo]
            exact loop_end (hl1.trans hj)
          · rw [if_neg (fun q => hmo q.1)] at hj
            rw [if_neg hmo]
            exact ⟨_, loop_end (hl1.trans hj)⟩
        · rw [if_neg h0] at hpv
          subst hpv
          rw [if_neg (fun q => h0 q.2)] at hj
          exact ⟨_, loop_end (hl1.trans hj)⟩
      · rw [if_neg (Int.not_lt.2 hc1)] at hj hpv
        rw [loop_nxt (hl1.trans hj)]
        subst hpv
        exact Uloop most xs (i + 1) m hB' (by omega) (by rw [hm']; exact hlt2) (by rw [hm']; exact hlt.2)
    · rw [pV, if_neg hc] at hpv
      subst hpv
      refine ⟨_, loop_end (t := Sum.inr ⟨xs⟩) ?_⟩
      show column_Reader_Uint_l1 most ((c : Int) :: xs) (n : Int) (i : Int) = _
      unfold column_Reader_Uint_l1
      rw [hby]
      simp only [Option.bind_some, s_inl]
      rw [if_neg (by simp only [decide_eq_true_eq]; omega)]
      by_cases hi9 : i = 9
      · rw [if_pos (by subst hi9; rfl), show decide ((c : Int) < 2) = false by simp; omega, Check_f]; rfl
      · rw [if_neg (by simp; omega), Check_f]; rfl
theorem Uint_is (most : Int) {xs : List Int} (hB : Bs xs) : IsR (column_Reader_Uint ⟨xs⟩ most) (pU most xs) := by
  unfold column_Reader_Uint pU
  have := Uloop most xs 0 0 hB (by omega) (by simp) (by omega)
  simp only [Int.natCast_zero] at this
  rcases this.cases with ⟨a, r, h1, h2⟩ | ⟨h1, s, h2⟩
  · rw [h1]; show _ = _; rw [h2]; rfl
  · rw [h1]; exact ⟨s, by rw [h2]; rfl⟩
theorem pU_some {most : Int} {xs r : List Int} {n : Int} (h : pU most xs = some (n, r)) : (0 ≤ n ∧ n < 18446744073709551616 ∧ n ≤ most) ∧ ∃ p, xs = p ++ r ∧ 0 < p.length := by
  unfold pU at h
  split at h
  · rename_i m r' he
    split at h
    · cases h
      obtain ⟨h1, h2⟩ := pV_lt _ _ _ _ _ (by simp) (by omega) he
      exact ⟨⟨by omega, by omega, by assumption⟩, h2⟩
    · cases h
  · cases h
theorem and_1 (a : Nat) : a &&& 1 = a % 2 := Nat.and_two_pow_sub_one_eq_mod a 1
theorem xor_m1 {a : Nat} (h : a < 9223372036854775808) : ixor .i64 (a : Int) (-1) = -(a : Int) - 1 := by
  show IntKind.i64.wrap (((BitVec.ofInt 64 (a : Int) ^^^ BitVec.allOnes 64).toNat : Nat) : Int) = _
  rw [ofInt_nat, BitVec.xor_allOnes, BitVec.toNat_not, BitVec.toNat_ofNat, Nat.mod_eq_of_lt (show a < 2 ^ 64 by omega), IntWalk.i64_left]
  unfold wrap64
  omega
theorem xor_0 {a : Nat} (h : a < 9223372036854775808) : ixor .i64 (a : Int) 0 = (a : Int) := by
  show IntKind.i64.wrap (((BitVec.ofInt 64 (a : Int) ^^^ 0#64).toNat : Nat) : Int) = _
  rw [ofInt_nat, BitVec.xor_zero, BitVec.toNat_ofNat, Nat.mod_eq_of_lt (show a < 2 ^ 64 by omega), w64 (by omega) (by omega)]
theorem uz_eq {n : Nat} (h : n < 18446744073709551616) : ixor .i64 (IntKind.i64.wrap (ishr .u64 (n : Int) 1)) (IntKind.i64.wrap (0 - IntKind.i64.wrap (iand .u64 (n : Int) 1))) = uz n := by
  have e1 : ishr .u64 (n : Int) 1 = ((n / 2 : Nat) : Int) := ishr_nat (k := .u64) n 1 (by decide)
  have e2 : iand .u64 (n : Int) 1 = ((n % 2 : Nat) : Int) := by
    have := iand_u64 (a := n) (b := 1) h (by omega)
    rw [show ((1 : Nat) : Int) = 1 from rfl] at this
    rw [this, and_1]
  rw [e1, e2, w64 (n := ((n / 2 : Nat) : Int)) (by omega) (by omega), w64 (n := ((n % 2 : Nat) : Int)) (by omega) (by omega), w64 (by omega) (by omega)]
  unfold uz
  by_cases ho : n % 2 = 1
  · rw [if_pos ho, ho, show (0 : Int) - ((1 : Nat) : Int) = -1 from rfl, xor_m1 (by omega)]
  · rw [if_neg ho, show n % 2 = 0 by omega, show (0 : Int) - ((0 : Nat) : Int) = 0 from rfl, xor_0 (by omega)]
theorem Int_is {xs : List Int} (hB : Bs xs) : IsR (column_Reader_Int ⟨xs⟩) (pI xs) := by
  unfold column_Reader_Int pI
  rcases (Uint_is 18446744073709551615 hB).cases with ⟨a, r, h1, h2⟩ | ⟨h1, s, h2⟩
  · rw [h1, h2]
    obtain ⟨⟨q1, q2, _⟩, _⟩ := pU_some h1
    simp only [Option.bind_some, s_inl, lt_]
    have := uz_eq (n := a.toNat) (by omega)
    rw [show ((a.toNat : Nat) : Int) = a by omega] at this
    show _ = _
    rw [this]
  · rw [h1, h2]
    exact ⟨s, rfl⟩
theorem Text_is (most : Int) {xs : List Int} (hB : Bs xs) (hl : xs.length < 9223372036854775808) : IsR (column_Reader_Text ⟨xs⟩ most) (pT most xs) := by
  unfold column_Reader_Text pT
  rw [lt_]
  rcases (Uint_is (IntKind.u64.wrap most) hB).cases with ⟨a, r, h1, h2⟩ | ⟨h1, s, h2⟩
  · rw [h1, h2]
    obtain ⟨⟨q1, q2, _⟩, p, hp, _⟩ := pU_some h1
    have hr : r.length ≤ xs.length := by rw [hp]; simp
    simp only [Option.bind_some, s_inl, lt_]
    rw [u64w (by omega) (by omega)]
    obtain ⟨n, rfl⟩ : ∃ n : Nat, a = (n : Int) := ⟨a.toNat, by omega⟩
    by_cases hn : (n : Int) ≤ (r.length : Int)
    · rw [show decide ((n : Int) ≤ (r.length : Int)) = true by simpa using hn, Check_t, if_pos hn]
      simp only [Option.bind_some, s_inl]
      have c1 := cut_nat (xs := r) (l := 0) (u := n) (by omega) (by omega)
      have c2 := cut_nat (xs := r) (l := n) (u := r.length) (by omega) (by omega)
      rw [show ((0 : Nat) : Int) = 0 from rfl, List.drop_zero] at c1
      rw [List.take_length] at c2
      rw [c1]
      simp only [Option.bind_some]
      rw [c2]
      rfl
    · rw [show decide ((n : Int) ≤ (r.length : Int)) = false by simpa using hn, Check_f, if_neg hn]
      exact ⟨_, rfl⟩
  · rw [h1, h2]
    exact ⟨s, rfl⟩
theorem pV_uv : ∀ (k : Nat) (m i n : Nat) (r : List Int), m < 128 ^ (k + 1) → k + i ≤ 9 → m * 2 ^ (7 * i) + n < 18446744073709551616 → (0 < i → 0 < m) → pV i n (uv m ++ r) = some (n + m * 2 ^ (7 * i), r)
  | k, m, i, n, r, h, hi, hlt, h0 => by
    by_cases hm : m < 128
    · rw [uv_small hm, List.singleton_append, pV]
      have h9 : i < 9 ∨ (i = 9 ∧ (m : Int) < 2) := by
        rcases Nat.lt_or_ge i 9 with q | q
        · exact .inl q
        · have : i = 9 := by omega
          subst this
          refine .inr ⟨rfl, ?_⟩
          rcases Nat.lt_or_ge m 2 with q2 | q2
          · omega
          · have : 2 * 2 ^ (7 * 9) ≤ m * 2 ^ (7 * 9) := Nat.mul_le_mul_right _ q2
            omega
      rw [if_pos h9, if_pos (by omega), if_pos (by rcases Nat.eq_zero_or_pos i with q | q; exact .inl q; have := h0 q; exact .inr (by omega)), Int.toNat_natCast, Nat.mod_eq_of_lt hm]
    · rw [uv_large hm, List.cons_append, pV]
      match k, h, hi with
      | 0, h, _ => exact absurd (by simpa using h) hm
      | k + 1, h, hi =>
        rw [if_pos (.inl (by omega)), if_neg (by omega), Int.toNat_natCast, show (m % 128 + 128) % 128 = m % 128 by omega]
        have hp : 2 ^ (7 * (i + 1)) = 128 * 2 ^ (7 * i) := by rw [show 7 * (i + 1) = 7 + 7 * i by omega, Nat.pow_add]
        have hdiv : m / 128 * (128 * 2 ^ (7 * i)) + m % 128 * 2 ^ (7 * i) = m * 2 ^ (7 * i) := by
          rw [← Nat.mul_assoc, ← Nat.add_mul]
          congr 1
          omega
        rw [pV_uv k (m / 128) (i + 1) _ r (by rw [Nat.pow_succ] at h; exact Nat.div_lt_of_lt_mul (by rw [Nat.mul_comm]; exact h)) (by omega) (by rw [hp]; omega) (fun _ => by omega), hp]
        congr 2
        omega
theorem pU_uv {m : Nat} (h : m < 18446744073709551616) (r : List Int) {most : Int} (hm : (m : Int) ≤ most) : pU most (uv m ++ r) = some ((m : Int), r) := by
  unfold pU
  rw [pV_uv 9 m 0 0 r (by omega) (by omega) (by simp; omega) (fun q => absurd q (by omega))]
  simp only [Nat.mul_zero, Nat.pow_zero, Nat.mul_one, Nat.zero_add]
  rw [if_pos hm]
theorem pI_uv {x : Int} (h : i64 x) (r : List Int) : pI (uv (zz x) ++ r) = some (x, r) := by
  unfold pI
  have := zz_lt h
  rw [pU_uv this r (by omega)]
  simp only [Int.toNat_natCast, uz_zz]
end Go.Proofs.YteodeedejjcmgaaDoor.P
namespace Go.Proofs.YteodeedejjcmgaaDoor.P
open Go Go.RowKit Go.Proofs.YteodeedejjcmgaaDoor.E Go.Proofs.YteodeedejjcmgaaDoor.M
set_option linter.unusedVariables false
set_option linter.unusedSectionVars false
def bl (n : Nat) : Nat := if h : n = 0 then 0 else bl (n / 2) + 1
termination_by n
decreasing_by omega
theorem bl_zero : bl 0 = 0 := by rw [bl, dif_pos rfl]
theorem bl_pos {n : Nat} (h : 0 < n) : bl n = bl (n / 2) + 1 := by rw [bl, dif_neg (by omega)]
theorem bl_lt (n : Nat) : n < 2 ^ bl n := by
  induction n using Nat.strongRecOn with
  | _ n ih =>
    rcases Nat.eq_zero_or_pos n with rfl | h
    · rw [bl_zero]; decide
    · rw [bl_pos h, Nat.pow_succ]
      have := ih (n / 2) (by omega)
      omega
theorem bl_le : ∀ (k n : Nat), n < 2 ^ k → bl n ≤ k
  | 0, n, h => by have : n = 0 := by simpa using h
                  rw [this, bl_zero]; exact Nat.le_refl _
  | k + 1, n, h => by
    rcases Nat.eq_zero_or_pos n with rfl | hp
    · rw [bl_zero]; omega
    · rw [bl_pos hp]
      have := bl_le k (n / 2) (by rw [Nat.pow_succ] at h; omega)
      omega
theorem bl_shift : ∀ (k n : Nat), 2 ^ k ≤ n → bl n = k + bl (n / 2 ^ k)
  | 0, n, _ => by simp
  | k + 1, n, h => by
    have hp : 0 < 2 ^ k := Nat.two_pow_pos k
    rw [Nat.pow_succ] at h
    rw [bl_pos (by omega), bl_shift k (n / 2) (by omega), Nat.div_div_eq_div_mul, Nat.pow_succ, Nat.mul_comm (2 ^ k) 2]
    omega
def V (w : Nat) : List Nat → Nat
  | [] => 0
  | d :: ds => d + 2 ^ w * V w ds
def Lt (w : Nat) (ds : List Nat) : Prop := ∀ d ∈ ds, d < 2 ^ w
theorem Lt.tail {w d : Nat} {ds : List Nat} (h : Lt w (d :: ds)) : d < 2 ^ w ∧ Lt w ds := ⟨h d List.mem_cons_self, fun x hx => h x (List.mem_cons_of_mem _ hx)⟩
theorem V_lt {w : Nat} : ∀ {ds : List Nat}, Lt w ds → V w ds < 2 ^ (ds.length * w)
  | [], _ => by simp [V]
  | d :: ds, h => by
    have h1 := h.tail.1
    have h2 := V_lt h.tail.2
    simp only [V, List.length_cons]
    rw [Nat.add_mul, Nat.one_mul, Nat.pow_add, Nat.mul_comm (2 ^ (ds.length * w))]
    have : 2 ^ w * V w ds + 2 ^ w ≤ 2 ^ w * 2 ^ (ds.length * w) := by
      rw [← Nat.mul_succ]; exact Nat.mul_le_mul_left _ h2
    omega
theorem V_drop {w : Nat} : ∀ {ds : List Nat}, Lt w ds → ∀ i, V w ds / 2 ^ (i * w) = V w (ds.drop i)
  | ds, _, 0 => by simp
  | [], _, i + 1 => by simp [V]
  | d :: ds, h, i + 1 => by
    rw [List.drop_succ_cons, ← V_drop h.tail.2 i, Nat.add_mul, Nat.one_mul, Nat.add_comm (i * w), Nat.pow_add, ← Nat.div_div_eq_div_mul]
    congr 1
    simp only [V]
    rw [Nat.add_mul_div_left _ _ (Nat.two_pow_pos w), Nat.div_eq_of_lt h.tail.1, Nat.zero_add]
theorem V_get {w : Nat} {ds : List Nat} (h : Lt w ds) {i d : Nat} (hd : ds[i]? = some d) : V w ds / 2 ^ (i * w) % 2 ^ w = d := by
  rw [V_drop h, List.drop_eq_getElem_cons (List.getElem?_eq_some_iff.1 hd).1, (List.getElem?_eq_some_iff.1 hd).2, V, Nat.add_mul_mod_self_left]
  exact Nat.mod_eq_of_lt (h d (List.mem_of_getElem? hd))
def by_ (m v : Nat) : List Nat := (List.range m).map fun j => v / 2 ^ (8 * j) % 256
theorem by_length (m v : Nat) : (by_ m v).length = m := by simp [by_]
theorem by_get {m v j : Nat} (h : j < m) : (by_ m v)[j]? = some (v / 2 ^ (8 * j) % 256) := by
  unfold by_
  rw [List.getElem?_map, List.getElem?_range h]; rfl
theorem by_lt (m v : Nat) : Lt 8 (by_ m v) := by
  intro d hd
  unfold by_ at hd
  obtain ⟨j, _, rfl⟩ := List.mem_map.1 hd
  exact Nat.mod_lt _ (by decide)
theorem by_ext {xs ys : List Nat} (hl : xs.length = ys.length) (h : ∀ j : Nat, j < xs.length → xs[j]? = ys[j]?) : xs = ys := by
  apply List.ext_getElem? fun j => ?_
  rcases Nat.lt_or_ge j xs.length with hj | hj
  · exact h j hj
  · rw [List.getElem?_eq_none hj, List.getElem?_eq_none (by omega)]
def bt (v i : Nat) : Nat := v / 2 ^ i % 2
theorem bt_lt (v i : Nat) : bt v i < 2 := Nat.mod_lt _ (by decide)
theorem mod_succ (v i : Nat) : v % 2 ^ (i + 1) = v % 2 ^ i + bt v i * 2 ^ i := by
  rw [Nat.pow_succ, Nat.mod_mul, bt, Nat.mul_comm]
theorem bt_V {w : Nat} {ds : List Nat} (h : Lt w ds) {i k d : Nat} (hd : ds[i]? = some d) (hk : k < w) : bt (V w ds) (i * w + k) = bt d k := by
  unfold bt
  have hm := V_get h hd
  rw [Nat.pow_add, ← Nat.div_div_eq_div_mul]
  conv => rhs; rw [← hm]
  obtain ⟨x, hx⟩ : ∃ x, x = V w ds / 2 ^ (i * w) := ⟨_, rfl⟩
  rw [← hx]
  obtain ⟨j, rfl⟩ : ∃ j, w = k + (j + 1) := ⟨w - k - 1, by omega⟩
  rw [Nat.pow_add, Nat.mod_mul_right_div_self, Nat.pow_succ, Nat.mul_comm (2 ^ j) 2, Nat.mod_mul_right_mod]
theorem part_same (v i q w : Nat) (hw : 0 < w) (hq : q ≠ i / w) : v % 2 ^ (i + 1) / 2 ^ (q * w) % 2 ^ w = v % 2 ^ i / 2 ^ (q * w) % 2 ^ w := by
  rw [mod_succ]
  rcases Nat.lt_or_ge (i / w) q with hlt | hge
  · -- above
    have h1 : (i / w + 1) * w ≤ q * w := Nat.mul_le_mul_right _ hlt
    have h2 : i < (i / w + 1) * w := by have h := Nat.div_add_mod i w; have h' := Nat.mod_lt i hw; rw [Nat.add_mul, Nat.one_mul, Nat.mul_comm (i / w)]; omega
    have h3 : 2 ^ (i + 1) ≤ 2 ^ (q * w) := Nat.pow_le_pow_right (by decide) (by omega)
    have h4 : v % 2 ^ i < 2 ^ i := Nat.mod_lt _ (Nat.two_pow_pos i)
    have h5 := bt_lt v i
    have h6 : bt v i * 2 ^ i ≤ 1 * 2 ^ i := Nat.mul_le_mul_right _ (by omega)
    rw [Nat.pow_succ] at h3
    rw [Nat.div_eq_of_lt (by omega), Nat.div_eq_of_lt (by omega)]
  · -- below
    have hlt : q < i / w := by omega
    have h1 : (q + 1) * w ≤ i / w * w := Nat.mul_le_mul_right _ hlt
    have h2 : i / w * w ≤ i := Nat.div_mul_le_self i w
    obtain ⟨j, rfl⟩ : ∃ j, i = q * w + w + j := ⟨i - (q * w + w), by rw [Nat.add_mul] at h1; omega⟩
    have e : bt v (q * w + w + j) * 2 ^ (q * w + w + j) = 2 ^ (q * w) * (2 ^ w * (2 ^ j * bt v (q * w + w + j))) := by
      rw [Nat.pow_add, Nat.pow_add]; ac_rfl
    rw [e, Nat.add_mul_div_left _ _ (Nat.two_pow_pos _), Nat.add_mul_mod_self_left]
theorem part_new (v i w : Nat) (hw : 0 < w) : v % 2 ^ (i + 1) / 2 ^ (i / w * w) % 2 ^ w = v % 2 ^ i / 2 ^ (i / w * w) % 2 ^ w + bt v i * 2 ^ (i % w) ∧ v % 2 ^ i / 2 ^ (i / w * w) % 2 ^ w < 2 ^ (i % w) := by
  obtain ⟨q, hq⟩ : ∃ q, q = i / w * w := ⟨_, rfl⟩
  obtain ⟨k, hk⟩ : ∃ k, k = i % w := ⟨_, rfl⟩
  have hi : i = q + k := by rw [hq, hk, Nat.mul_comm]; exact (Nat.div_add_mod i w).symm
  have hkw : k < w := by rw [hk]; exact Nat.mod_lt _ hw
  rw [← hq, ← hk, mod_succ, hi]
  have hlt : v % 2 ^ (q + k) / 2 ^ q < 2 ^ k := Nat.div_lt_of_lt_mul (by rw [← Nat.pow_add]; exact Nat.mod_lt _ (Nat.two_pow_pos _))
  have hkk : 2 ^ (k + 1) ≤ 2 ^ w := Nat.pow_le_pow_right (by decide) hkw
  rw [Nat.pow_succ] at hkk
  have hb := bt_lt v (q + k)
  have hb2 : bt v (q + k) * 2 ^ k ≤ 1 * 2 ^ k := Nat.mul_le_mul_right _ (by omega)
  have e : bt v (q + k) * 2 ^ (q + k) = 2 ^ q * (bt v (q + k) * 2 ^ k) := by rw [Nat.pow_add, ← Nat.mul_assoc, ← Nat.mul_assoc, Nat.mul_comm (bt v (q + k))]
  rw [e, Nat.add_mul_div_left _ _ (Nat.two_pow_pos q), Nat.mod_eq_of_lt (show v % 2 ^ (q + k) / 2 ^ q + bt v (q + k) * 2 ^ k < 2 ^ w by omega), Nat.mod_eq_of_lt (show v % 2 ^ (q + k) / 2 ^ q < 2 ^ w by omega)]
  exact ⟨rfl, hlt⟩
end Go.Proofs.YteodeedejjcmgaaDoor.P
namespace Go.Proofs.YteodeedejjcmgaaDoor.P
open Go Go.RowKit Go.Proofs.YteodeedejjcmgaaDoor.E Go.Proofs.YteodeedejjcmgaaDoor.M
set_option linter.unusedVariables false
set_option linter.unusedSectionVars false
def b0 (l : List Int) : List Int := (l.map fun x => uv (zz x)).flatten
def lastOf : Int → List Int → Int
  | a, [] => a
  | _, x :: l => lastOf x l
def bD : Int → List Int → List Int
  | _, [] => []
  | a, x :: l => uv (zz (IntKind.i64.wrap (x - a))) ++ bD x l
def bR : Nat → List Int → List Int
  | _, [] => []
  | k, [x] => uv (zz x) ++ uv k
  | k, x :: y :: l => if y = x then bR (k + 1) (y :: l) else uv (zz x) ++ uv k ++ bR 0 (y :: l)
def mn : Int → List Int → Int
  | m, [] => m
  | m, x :: l => mn (if x < m then x else m) l
def ds (lo : Int) (l : List Int) : List Nat := l.map fun x => (x - lo).toNat
def wdt (D : List Nat) : Nat := D.foldl (fun w d => if w < bl d then bl d else w) 0
def ofN (l : List Nat) : List Int := l.map fun (n : Nat) => (n : Int)
def pk : List Int → List Int
  | [] => []
  | x :: l => uv (zz (mn x l)) ++ [(wdt (ds (mn x l) (x :: l)) : Int)] ++ ofN (by_ (((x :: l).length * wdt (ds (mn x l) (x :: l)) + 7) / 8) (V (wdt (ds (mn x l) (x :: l))) (ds (mn x l) (x :: l))))
def body : Nat → List Int → List Int
  | 0, l => b0 l
  | 1, l => bD 0 l
  | 2, l => bR 0 l
  | _, l => pk l
def asL (w : Nat) (l : List Int) : List Int := (w : Int) :: (uv l.length ++ body w l)
def I64 (l : List Int) : Prop := ∀ x ∈ l, i64 x
theorem I64.get {l : List Int} (h : I64 l) {i : Nat} {x : Int} (hx : l[i]? = some x) : i64 x := h x (List.mem_of_getElem? hx)
theorem len_b0 : ∀ {l : List Int}, I64 l → (b0 l).length ≤ 10 * l.length
  | [], _ => by simp [b0]
  | x :: l, h => by
    have h1 := uv_length64 (zz_lt (h x List.mem_cons_self))
    have h2 := len_b0 (l := l) fun y hy => h y (List.mem_cons_of_mem _ hy)
    simp only [b0, List.map_cons, List.flatten_cons, List.length_append, List.length_cons] at h2 ⊢
    omega
theorem len_bD : ∀ (l : List Int) (a : Int), (bD a l).length ≤ 10 * l.length
  | [], _ => by simp [bD]
  | x :: l, a => by
    have h1 := uv_length64 (zz_lt (i64_wrap (x - a)))
    have h2 := len_bD l x
    simp only [bD, List.length_append, List.length_cons]
    omega
theorem len_bR : ∀ (l : List Int) (k : Nat), I64 l → k + l.length < 18446744073709551616 → (bR k l).length ≤ 20 * l.length
  | [], _, _, _ => by simp [bR]
  | [x], k, h, hk => by
    have h1 := uv_length64 (zz_lt (h x List.mem_cons_self))
    have h2 := uv_length64 (n := k) (by simp at hk; omega)
    simp only [bR, List.length_append, List.length_cons, List.length_nil]
    omega
  | x :: y :: l, k, h, hk => by
    have h1 := uv_length64 (zz_lt (h x List.mem_cons_self))
    simp only [List.length_cons] at hk
    have h2 := uv_length64 (n := k) (by omega)
    have h' : I64 (y :: l) := fun z hz => h z (List.mem_cons_of_mem _ hz)
    unfold bR
    split
    · have := len_bR (y :: l) (k + 1) h' (by simp only [List.length_cons]; omega)
      simp only [List.length_cons] at this ⊢
      omega
    · have := len_bR (y :: l) 0 h' (by simp only [List.length_cons]; omega)
      simp only [List.length_append, List.length_cons] at this ⊢
      omega
theorem b0_snoc (l : List Int) (x : Int) : b0 (l ++ [x]) = b0 l ++ uv (zz x) := by simp [b0]
theorem bD_snoc : ∀ (l : List Int) (a x : Int), bD a (l ++ [x]) = bD a l ++ uv (zz (IntKind.i64.wrap (x - lastOf a l)))
  | [], a, x => by simp [bD, lastOf]
  | y :: l, a, x => by simp [bD, lastOf, bD_snoc l y x]
theorem lastOf_snoc : ∀ (l : List Int) (a x : Int), lastOf a (l ++ [x]) = x
  | [], a, x => rfl
  | y :: l, a, x => lastOf_snoc l y x
theorem take_snoc {l : List Int} {k : Nat} {x : Int} (h : l[k]? = some x) : l.take (k + 1) = l.take k ++ [x] := by rw [List.take_add_one, h]; rfl
theorem I64.take {l : List Int} (h : I64 l) (k : Nat) : I64 (l.take k) := fun x hx => h x (List.mem_of_mem_take hx)
section
variable {l pre : List Int} (hl : l.length ≤ 4096) (hi : I64 l) (hp : pre.length ≤ 20)
include hl hi hp
theorem col0 : loop (fun s : List Int × Int => column_As_l1 l s.1 s.2) (pre, 0) = some (pre ++ b0 l) := by
  have := loop_to (b := fun s : List Int × Int => column_As_l1 l s.1 s.2) (fun k => (pre ++ b0 (l.take k), (k : Int))) (t := pre ++ b0 l) l.length (fun k hk => by
    have hx := List.getElem?_eq_getElem hk
    have hlen := len_b0 (hi.take k)
    rw [List.length_take] at hlen
    show column_As_l1 l (pre ++ b0 (l.take k)) (k : Int) = _
    unfold column_As_l1
    rw [if_pos (by simp only [decide_eq_true_eq]; omega), at_int rfl hx]
    simp only [Option.bind_some]
    rw [Int_app (hi.get hx) _ (by simp only [List.length_append]; omega)]
    simp only [Option.bind_some, lt_]
    rw [w64 (by omega) (by omega), take_snoc hx, b0_snoc, List.append_assoc]
    rfl) (by
    show column_As_l1 l (pre ++ b0 (l.take l.length)) (l.length : Int) = _
    unfold column_As_l1
    rw [if_neg (by simp), List.take_length])
  simpa [b0] using this
omit hi in
theorem col1 : loop (fun s : List Int × Int × Int => column_As_l2 l s.1 s.2.1 s.2.2) (pre, 0, 0) = some (pre ++ bD 0 l) := by
  have := loop_to (b := fun s : List Int × Int × Int => column_As_l2 l s.1 s.2.1 s.2.2) (fun k => (pre ++ bD 0 (l.take k), lastOf 0 (l.take k), (k : Int))) (t := pre ++ bD 0 l) l.length (fun k hk => by
    have hx := List.getElem?_eq_getElem hk
    have hlen := len_bD (l.take k) 0
    rw [List.length_take] at hlen
    show column_As_l2 l (pre ++ bD 0 (l.take k)) (lastOf 0 (l.take k)) (k : Int) = _
    unfold column_As_l2
    rw [if_pos (by simp only [decide_eq_true_eq]; omega), at_int rfl hx]
    simp only [Option.bind_some, lt_]
    rw [Int_app (i64_wrap _) _ (by simp only [List.length_append]; omega)]
    simp only [Option.bind_some]
    rw [w64 (n := (k : Int) + 1) (by omega) (by omega), take_snoc hx, bD_snoc, lastOf_snoc, List.append_assoc]
    rfl) (by
    show column_As_l2 l (pre ++ bD 0 (l.take l.length)) (lastOf 0 (l.take l.length)) (l.length : Int) = _
    unfold column_As_l2
    rw [if_neg (by simp), List.take_length])
  simpa [bD, lastOf] using this
end
theorem run_split (x : Int) : ∀ rest : List Int, ∃ (m : Nat) (tl : List Int), rest = List.replicate m x ++ tl ∧ ∀ y, tl[0]? = some y → y ≠ x
  | [] => ⟨0, [], rfl, by simp⟩
  | y :: rest => by
    by_cases h : y = x
    · obtain ⟨m, tl, h1, h2⟩ := run_split x rest
      exact ⟨m + 1, tl, by rw [h, h1]; rfl, h2⟩
    · exact ⟨0, y :: rest, rfl, fun z hz => by cases hz; exact h⟩
theorem bR_run (x : Int) (tl : List Int) (h : ∀ y, tl[0]? = some y → y ≠ x) : ∀ (m k : Nat), bR k (x :: (List.replicate m x ++ tl)) = uv (zz x) ++ uv (k + m) ++ bR 0 tl
  | 0, k => by
    cases tl with
    | nil => simp [bR]
    | cons y tl =>
      have := h y rfl
      simp only [List.replicate_zero, List.nil_append, bR, if_neg this, Nat.add_zero]
  | m + 1, k => by
    rw [List.replicate_succ, List.cons_append, bR, if_pos rfl, bR_run x tl h m (k + 1), show k + 1 + m = k + (m + 1) by omega]
section
variable {l pre : List Int} (hl : l.length ≤ 4096) (hi : I64 l) (hp : pre.length ≤ 20)
include hl hi hp
theorem col2 : loop (fun s : List Int × Int => column_As_l3 l s.1 s.2) (pre, 0) = some (pre ++ bR 0 l) := by
  obtain ⟨t, ht, rfl⟩ := loop_good (b := fun s : List Int × Int => column_As_l3 l s.1 s.2) (s := (pre, 0))
    (fun s => ∃ i : Nat, s.2 = i ∧ i ≤ l.length ∧ s.1.length ≤ 20 + 20 * i ∧ s.1 ++ bR 0 (l.drop i) = pre ++ bR 0 l)
    (fun s => ((l.length : Int) - s.2).toNat) (fun t => t = pre ++ bR 0 l) ⟨0, rfl, by omega, by simpa using hp, by simp⟩ (by
      rintro ⟨acc, q⟩ ⟨i, hq, hil, hacc, hinv⟩
      simp only at hq hacc hinv
      subst hq
      show (∃ s', column_As_l3 l acc (i : Int) = some (.inl s') ∧ _) ∨ ∃ t, column_As_l3 l acc (i : Int) = some (.inr t) ∧ _
      unfold column_As_l3
      by_cases hlt : i < l.length
      · rw [if_pos (by simp only [decide_eq_true_eq]; omega)]
        have hx := List.getElem?_eq_getElem hlt
        obtain ⟨x, hxe⟩ : ∃ x, x = l[i] := ⟨_, rfl⟩
        rw [← hxe] at hx
        have hd : l.drop i = x :: l.drop (i + 1) := by rw [List.drop_eq_getElem_cons hlt, ← hxe]
        obtain ⟨m, tl, hm, htl⟩ := run_split x (l.drop (i + 1))
        have hlen : l.length = i + 1 + m + tl.length := by
          have := congrArg List.length hm
          simp only [List.length_drop, List.length_append, List.length_replicate] at this
          omega
        have hget : ∀ k, k < m → l[i + 1 + k]? = some x := by
          intro k hk
          have : (l.drop (i + 1))[k]? = some x := by rw [hm, List.getElem?_append_left (by simpa using hk)]; simp [hk]
          rwa [List.getElem?_drop] at this
        have hdr : l.drop (i + 1 + m) = tl := by
          rw [← List.drop_drop, hm]
          exact List.drop_left' (by simp)
        -- how many are alike
        have hin := loop_to (b := fun s : Int => column_As_l4 l (i : Int) s) (fun k => ((k + 1 : Nat) : Int)) (t := ((m + 1 : Nat) : Int)) m (fun k hk => by
          show column_As_l4 l (i : Int) ((k + 1 : Nat) : Int) = _
          unfold column_As_l4
          rw [lt_, w64 (by omega) (by omega), if_pos (by simp only [decide_eq_true_eq]; omega), at_int (n := i + 1 + k) (by omega) (hget k hk), at_int rfl hx]
          simp only [Option.bind_some]
          unfold column_As_j1
          rw [if_pos (by simp), lt_, w64 (by omega) (by omega)]
          rfl) (by
          show column_As_l4 l (i : Int) ((m + 1 : Nat) : Int) = _
          unfold column_As_l4
          rw [lt_, w64 (by omega) (by omega)]
          by_cases htz : tl.length = 0
          · rw [if_neg (by simp only [decide_eq_true_eq]; omega)]
            unfold column_As_j1
            rw [if_neg (by simp)]
          · obtain ⟨y, hy⟩ : ∃ y, tl[0]? = some y := ⟨_, List.getElem?_eq_getElem (by omega)⟩
            have hy' : l[i + 1 + m]? = some y := by rw [← hdr, List.getElem?_drop] at hy; exact hy
            rw [if_pos (by simp only [decide_eq_true_eq]; omega), at_int (n := i + 1 + m) (by omega) hy', at_int rfl hx]
            simp only [Option.bind_some]
            unfold column_As_j1
            rw [if_neg (by simpa using htl y hy)])
        rw [show (1 : Int) = ((0 + 1 : Nat) : Int) from rfl, hin]
        simp only [Option.bind_some]
        unfold column_As_x4_7 column_As_b5
        have hz := uv_length64 (zz_lt (hi.get hx))
        have hum := uv_length64 (n := m) (by omega)
        rw [at_int rfl hx]
        simp only [Option.bind_some]
        rw [Int_app (hi.get hx) _ (by omega)]
        simp only [Option.bind_some, lt_]
        rw [w64 (n := ((m + 1 : Nat) : Int) - 1) (by omega) (by omega), show ((m + 1 : Nat) : Int) - 1 = (m : Int) by omega, u64w (by omega) (by omega), Uint_app m _ (by omega) (by simp only [List.length_append]; omega)]
        simp only [Option.bind_some]
        rw [w64 (by omega) (by omega)]
        refine .inl ⟨_, rfl, ⟨i + 1 + m, ?_, by omega, ?_, ?_⟩, ?_⟩
        · simp only; omega
        · simp only [List.length_append]; omega
        · rw [hdr, ← hinv, hd, hm, bR_run x tl htl m 0]
          simp
        · simp only; omega
      · rw [if_neg (by simp only [decide_eq_true_eq]; omega)]
        refine .inr ⟨_, rfl, ?_⟩
        rw [← hinv, show i = l.length by omega, List.drop_length]
        simp [bR])
  exact ht
end
end Go.Proofs.YteodeedejjcmgaaDoor.P
namespace Go.Proofs.YteodeedejjcmgaaDoor.P
open Go Go.RowKit Go.Proofs.YteodeedejjcmgaaDoor.E Go.Proofs.YteodeedejjcmgaaDoor.M
set_option linter.unusedVariables false
set_option linter.unusedSectionVars false
theorem bl_eq {k m : Nat} (h1 : 2 ^ k ≤ m) (h2 : m < 2 ^ (k + 1)) : bl m = k + 1 := by
  have e : m / 2 ^ k = 1 := by
    rw [Nat.pow_succ] at h2
    have := (Nat.le_div_iff_mul_le (Nat.two_pow_pos k)).2 (show 1 * 2 ^ k ≤ m by omega)
    have := (Nat.div_lt_iff_lt_mul (Nat.two_pow_pos k)).2 (show m < 2 * 2 ^ k by omega)
    omega
  rw [bl_shift k m h1, e, bl_pos (by decide), show 1 / 2 = 0 from rfl, bl_zero]
def steps (m : Nat) : Nat := if m < 1 then 0 else if m < 2 then 1 else if m < 4 then 2 else if m < 8 then 3 else if m < 16 then 4 else if m < 32 then 5 else if m < 64 then 6 else if m < 128 then 7 else 8
theorem bl_steps {m : Nat} (h : m < 256) : bl m = steps m := by
  unfold steps
  repeat' split
  · rw [show m = 0 by omega, bl_zero]
  · exact bl_eq (k := 0) (by omega) (by omega)
  · exact bl_eq (k := 1) (by omega) (by omega)
  · exact bl_eq (k := 2) (by omega) (by omega)
  · exact bl_eq (k := 3) (by omega) (by omega)
  · exact bl_eq (k := 4) (by omega) (by omega)
  · exact bl_eq (k := 5) (by omega) (by omega)
  · exact bl_eq (k := 6) (by omega) (by omega)
  · exact bl_eq (k := 7) (by omega) (by omega)
set_option maxRecDepth 100000 in
theorem j3_eq {m : Nat} (h : m < 256) (a : Int) (ha : 0 ≤ a) (ha' : a ≤ 64) : bits_Len64_j3 (m : Int) a = some (a + (bl m : Int)) := by
  unfold bits_Len64_j3
  rw [lt_, u8w (by omega) (by omega), at_nat]
  have key : ∀ tb : List UInt8, (∀ i : Fin 256, (tb[i.val]?).map (fun b : UInt8 => b.toNat) = some (steps i.val)) → ((tb[m]?).bind fun x133 => (ltt (IntKind.i64.wrap (x133.toNat : Int)) fun x135 => (ltt (IntKind.i64.wrap (a + x135)) fun x137 => (some x137)))) = some (a + (bl m : Int)) := by
    intro tb ht
    have := ht ⟨m, h⟩
    simp only [Option.map_eq_some_iff] at this
    obtain ⟨b, hb, hs⟩ := this
    rw [hb]
    have : steps m ≤ 8 := by unfold steps; (repeat' split) <;> omega
    simp only [Option.bind_some, lt_]
    rw [hs, w64 (n := ((steps m : Nat) : Int)) (by omega) (by omega), w64 (by omega) (by omega), bl_steps h]
  exact key _ (by decide +kernel)
theorem sh {n k : Nat} (hk : k ≤ 64) : ishr .u64 (n : Int) (k : Int) = ((n / 2 ^ k : Nat) : Int) := ishr_nat (k := .u64) n k hk
theorem Len_eq {n : Nat} (h : n < 18446744073709551616) : bits_Len64 (n : Int) = some (bl n : Int) := by
  have j2 : ∀ (m a : Nat), m < 65536 → a ≤ 56 → bits_Len64_j2 (m : Int) (a : Int) = some ((a : Int) + (bl m : Int)) := by
    intro m a hm ha
    unfold bits_Len64_j2
    by_cases hc : 256 ≤ m
    · rw [if_pos (by simp only [decide_eq_true_eq]; omega), lt_, lt_]
      have e := sh (n := m) (k := 8) (by omega)
      rw [show ((8 : Nat) : Int) = 8 from rfl] at e
      rw [e, w64 (by omega) (by omega), j3_eq (by omega) _ (by omega) (by omega), bl_shift 8 m (by omega)]
      congr 1
      omega
    · rw [if_neg (by simp only [decide_eq_true_eq]; omega), j3_eq (by omega) _ (by omega) (by omega)]
  have j1 : ∀ (m a : Nat), m < 4294967296 → a ≤ 32 → bits_Len64_j1 (m : Int) (a : Int) = some ((a : Int) + (bl m : Int)) := by
    intro m a hm ha
    unfold bits_Len64_j1
    by_cases hc : 65536 ≤ m
    · rw [if_pos (by simp only [decide_eq_true_eq]; omega), lt_, lt_]
      have e := sh (n := m) (k := 16) (by omega)
      rw [show ((16 : Nat) : Int) = 16 from rfl] at e
      rw [e, w64 (by omega) (by omega), show (a : Int) + 16 = ((a + 16 : Nat) : Int) by omega, j2 _ _ (by omega) (by omega), bl_shift 16 m (by omega)]
      congr 1
      omega
    · rw [if_neg (by simp only [decide_eq_true_eq]; omega), j2 _ _ (by omega) (by omega)]
  unfold bits_Len64
  by_cases hc : 4294967296 ≤ n
  · rw [if_pos (by simp only [decide_eq_true_eq]; omega), lt_]
    have e := sh (n := n) (k := 32) (by omega)
    rw [show ((32 : Nat) : Int) = 32 from rfl] at e
    rw [e, show (32 : Int) = ((32 : Nat) : Int) from rfl, j1 _ _ (by omega) (by omega), bl_shift 32 n (by omega)]
    congr 1
  · rw [if_neg (by simp only [decide_eq_true_eq]; omega), show (0 : Int) = ((0 : Nat) : Int) from rfl, j1 _ _ (by omega) (by omega)]
    simp
theorem mn_snoc : ∀ (l : List Int) (m x : Int), mn m (l ++ [x]) = if x < mn m l then x else mn m l
  | [], m, x => rfl
  | y :: l, m, x => mn_snoc l _ x
theorem mn_le : ∀ (l : List Int) (m : Int), mn m l ≤ m ∧ ∀ x ∈ l, mn m l ≤ x
  | [], m => ⟨Int.le_refl _, fun x h => by cases h⟩
  | y :: l, m => by
    obtain ⟨h1, h2⟩ := mn_le l (if y < m then y else m)
    have h3 : (if y < m then y else m) ≤ m ∧ (if y < m then y else m) ≤ y := by split <;> omega
    refine ⟨Int.le_trans h1 h3.1, fun x hx => ?_⟩
    rcases List.mem_cons.1 hx with rfl | hx
    · exact Int.le_trans h1 h3.2
    · exact h2 x hx
theorem mn_mem : ∀ (l : List Int) (m : Int), mn m l = m ∨ mn m l ∈ l
  | [], m => .inl rfl
  | y :: l, m => by
    rcases mn_mem l (if y < m then y else m) with h | h
    · simp only [mn]
      rw [h]
      split
      · exact .inr List.mem_cons_self
      · exact .inl rfl
    · exact .inr (List.mem_cons_of_mem _ h)
theorem mn_i64 {x : Int} {l : List Int} (h : I64 (x :: l)) : i64 (mn x l) := by
  rcases mn_mem l x with e | e
  · rw [e]; exact h x List.mem_cons_self
  · exact h _ (List.mem_cons_of_mem _ e)
theorem d_eq {x lo : Int} (hx : i64 x) (hlo : i64 lo) (h : lo ≤ x) : IntKind.u64.wrap (IntKind.i64.wrap (x - lo)) = (((x - lo).toNat : Nat) : Int) ∧ (x - lo).toNat < 18446744073709551616 := by
  unfold i64 at hx hlo
  refine ⟨?_, by omega⟩
  rw [IntKind.wrap_u64, IntWalk.i64_left]
  unfold wrap64
  omega
theorem wdt_snoc (D : List Nat) (d : Nat) : wdt (D ++ [d]) = if wdt D < bl d then bl d else wdt D := by
  unfold wdt; rw [List.foldl_append]; rfl
theorem wdt_ge : ∀ (k : Nat) (D : List Nat), D.length = k → ∀ d ∈ D, bl d ≤ wdt D
  | 0, D, hk, d, hd => by rw [List.eq_nil_of_length_eq_zero hk] at hd; cases hd
  | k + 1, D, hk, d, hd => by
    obtain ⟨c, x, rfl⟩ : ∃ c x, D = c ++ [x] := ⟨D.dropLast, D.getLast (by intro e; rw [e] at hk; cases hk), (List.dropLast_concat_getLast _).symm⟩
    rw [wdt_snoc]
    rcases List.mem_append.1 hd with h | h
    · have := wdt_ge k c (by simpa using hk) d h
      split <;> omega
    · rw [List.mem_singleton.1 h]
      split <;> omega
theorem wdt_le (b : Nat) : ∀ (k : Nat) (D : List Nat), D.length = k → (∀ d ∈ D, bl d ≤ b) → wdt D ≤ b
  | 0, D, hk, _ => by rw [List.eq_nil_of_length_eq_zero hk]; simp [wdt]
  | k + 1, D, hk, h => by
    obtain ⟨c, x, rfl⟩ : ∃ c x, D = c ++ [x] := ⟨D.dropLast, D.getLast (by intro e; rw [e] at hk; cases hk), (List.dropLast_concat_getLast _).symm⟩
    rw [wdt_snoc]
    have h1 := wdt_le b k c (by simpa using hk) fun d hd => h d (List.mem_append.2 (.inl hd))
    have h2 := h x (List.mem_append.2 (.inr (List.mem_singleton.2 rfl)))
    split <;> omega
theorem Lt_wdt (D : List Nat) : Lt (wdt D) D := fun d hd => Nat.lt_of_lt_of_le (bl_lt d) (Nat.pow_le_pow_right (by decide) (wdt_ge _ D rfl d hd))
theorem ds_get {lo x : Int} {l : List Int} {i : Nat} (h : l[i]? = some x) : (ds lo l)[i]? = some (x - lo).toNat := by simp [ds, h]
theorem ds_length (lo : Int) (l : List Int) : (ds lo l).length = l.length := by simp [ds]
theorem by_step {m v at' : Nat} (h : at' / 8 < m) : (ofN (by_ m (v % 2 ^ at'))).set (at' / 8) ((v % 2 ^ at' / 2 ^ (8 * (at' / 8)) % 256 + bt v at' * 2 ^ (at' % 8) : Nat) : Int) = ofN (by_ m (v % 2 ^ (at' + 1))) := by
  unfold ofN
  rw [← List.map_set]
  congr 1
  refine by_ext (by simp [by_length]) fun j hj => ?_
  rw [List.length_set, by_length] at hj
  rw [by_get hj]
  by_cases e : at' / 8 = j
  · subst e
    have := (part_new v at' 8 (by decide)).1
    rw [Nat.mul_comm (at' / 8) 8, show 2 ^ 8 = 256 from rfl] at this
    rw [List.getElem?_set_self (by rw [by_length]; exact hj), this]
  · have := part_same v at' j 8 (by decide) (Ne.symm e)
    rw [Nat.mul_comm j 8, show 2 ^ 8 = 256 from rfl] at this
    rw [List.getElem?_set_ne e, by_get hj, this]
theorem ofN_get {D : List Nat} {j d : Nat} (h : D[j]? = some d) : (ofN D)[j]? = some (d : Int) := by simp [ofN, h]
theorem ofN_length (D : List Nat) : (ofN D).length = D.length := by simp [ofN]
section
variable {l : List Int} {lo : Int} {w : Nat} (hl : l.length ≤ 4096) (hi : I64 l) (hlo : i64 lo) (hle : ∀ x ∈ l, lo ≤ x) (hw : w ≤ 64) (hL : Lt w (ds lo l))
include hl hi hlo hle hw hL
omit hl in
theorem bit_eq {i : Nat} {x : Int} (hx : l[i]? = some x) {k : Nat} (hk : k < w) :
    ishr .u64 (IntKind.u64.wrap (IntKind.i64.wrap (x - lo))) (k : Int) = (((x - lo).toNat / 2 ^ k : Nat) : Int) ∧ bt (V w (ds lo l)) (i * w + k) = (x - lo).toNat / 2 ^ k % 2 ∧ (x - lo).toNat / 2 ^ k < 18446744073709551616 := by
  obtain ⟨e, e'⟩ := d_eq (hi.get hx) hlo (hle x (List.mem_of_getElem? hx))
  rw [e]
  exact ⟨sh (by omega), bt_V hL (ds_get hx) hk, Nat.lt_of_le_of_lt (Nat.div_le_self _ _) e'⟩
omit hi hlo hle hL in
theorem at_lt {i k : Nat} (hil : i < l.length) (hk : k < w) : i * w + k < l.length * w ∧ l.length * w ≤ 262144 ∧ (i * w + k) / 8 < (l.length * w + 7) / 8 := by
  have h1 : (i + 1) * w ≤ l.length * w := Nat.mul_le_mul_right _ hil
  have h2 : l.length * w ≤ 4096 * 64 := Nat.mul_le_mul hl hw
  rw [Nat.add_mul] at h1
  refine ⟨by omega, by omega, by omega⟩
theorem col_bits {i : Nat} {x : Int} (hx : l[i]? = some x) :
    loop (fun s : Int × List Int × Int => column_pack_l2 lo (w : Int) x s.1 s.2.1 s.2.2) (((i * w : Nat) : Int), ofN (by_ ((l.length * w + 7) / 8) (V w (ds lo l) % 2 ^ (i * w))), 0)
      = some ((((i + 1) * w : Nat) : Int), ofN (by_ ((l.length * w + 7) / 8) (V w (ds lo l) % 2 ^ ((i + 1) * w)))) := by
  have hil := (List.getElem?_eq_some_iff.1 hx).1
  have := loop_to (b := fun s : Int × List Int × Int => column_pack_l2 lo (w : Int) x s.1 s.2.1 s.2.2) (fun k => (((i * w + k : Nat) : Int), ofN (by_ ((l.length * w + 7) / 8) (V w (ds lo l) % 2 ^ (i * w + k))), (k : Int))) (t := ((((i + 1) * w : Nat) : Int), ofN (by_ ((l.length * w + 7) / 8) (V w (ds lo l) % 2 ^ ((i + 1) * w))))) w (fun k hk => by
    obtain ⟨h1, h2, h3⟩ := at_lt hl hw hil hk
    obtain ⟨e1, e2, e3⟩ := bit_eq hi hlo hle hw hL hx hk
    show column_pack_l2 lo (w : Int) x ((i * w + k : Nat) : Int) (ofN (by_ ((l.length * w + 7) / 8) (V w (ds lo l) % 2 ^ (i * w + k)))) (k : Int) = _
    have hstep := by_step (v := V w (ds lo l)) h3
    have hcur : V w (ds lo l) % 2 ^ (i * w + k) / 2 ^ (8 * ((i * w + k) / 8)) % 256 < 2 ^ ((i * w + k) % 8) := by
      have := (part_new (V w (ds lo l)) (i * w + k) 8 (by decide)).2
      rwa [Nat.mul_comm ((i * w + k) / 8) 8] at this
    rw [show i * w + (k + 1) = i * w + k + 1 by omega]
    generalize i * w + k = a at h1 h3 e2 hstep hcur ⊢
    have hget := ofN_get (by_get (v := V w (ds lo l) % 2 ^ a) h3)
    unfold column_pack_l2
    rw [if_pos (by simp only [decide_eq_true_eq]; omega), lt_, show ((a : Nat) : Int).tdiv 8 = ((a / 8 : Nat) : Int) from rfl, w64 (n := ((a / 8 : Nat) : Int)) (by omega) (by omega), at_int rfl hget]
    simp only [Option.bind_some, lt_]
    rw [chk_pos (by omega), e1, show ((a : Nat) : Int).tmod 8 = ((a % 8 : Nat) : Int) from rfl, chk_pos (by omega)]
    have hand : iand .u64 (((x - lo).toNat / 2 ^ k : Nat) : Int) 1 = ((bt (V w (ds lo l)) a : Nat) : Int) := by
      have := iand_u64 (a := (x - lo).toNat / 2 ^ k) (b := 1) e3 (by omega)
      rw [show ((1 : Nat) : Int) = 1 from rfl] at this
      rw [this, and_1, e2]
    have hb := bt_lt (V w (ds lo l)) a
    have hp8 : 2 ^ (a % 8) ≤ 2 ^ 7 := Nat.pow_le_pow_right (by decide) (by omega)
    have hbp : bt (V w (ds lo l)) a * 2 ^ (a % 8) ≤ 1 * 2 ^ (a % 8) := Nat.mul_le_mul_right _ (by omega)
    have hm : bt (V w (ds lo l)) a * 2 ^ (a % 8) % 256 = bt (V w (ds lo l)) a * 2 ^ (a % 8) := Nat.mod_eq_of_lt (by omega)
    rw [hand, u8w (by omega) (by omega), ishl_u8 _ _ (by omega), hm, ior_u8 (by omega) (by omega), or_top hcur, w64 (by omega) (by omega), w64 (by omega) (by omega), Int.toNat_natCast, hstep]
    rfl) (by
    show column_pack_l2 lo (w : Int) x ((i * w + w : Nat) : Int) (ofN (by_ ((l.length * w + 7) / 8) (V w (ds lo l) % 2 ^ (i * w + w)))) (w : Int) = _
    unfold column_pack_l2
    rw [if_neg (by simp), show i * w + w = (i + 1) * w by rw [Nat.add_mul, Nat.one_mul]])
  simpa using this
theorem col_all : loop (fun s : Int × List Int × Int => column_pack_l1 l lo (w : Int) s.1 s.2.1 s.2.2) (0, List.replicate ((l.length * w + 7) / 8) 0, 0) = some (ofN (by_ ((l.length * w + 7) / 8) (V w (ds lo l)))) := by
  have := loop_to (b := fun s : Int × List Int × Int => column_pack_l1 l lo (w : Int) s.1 s.2.1 s.2.2) (fun i => (((i * w : Nat) : Int), ofN (by_ ((l.length * w + 7) / 8) (V w (ds lo l) % 2 ^ (i * w))), (i : Int))) (t := ofN (by_ ((l.length * w + 7) / 8) (V w (ds lo l)))) l.length (fun i hil => by
    have hx := List.getElem?_eq_getElem hil
    show column_pack_l1 l lo (w : Int) ((i * w : Nat) : Int) (ofN (by_ ((l.length * w + 7) / 8) (V w (ds lo l) % 2 ^ (i * w)))) (i : Int) = _
    unfold column_pack_l1
    rw [if_pos (by simp only [decide_eq_true_eq]; omega), at_int rfl hx]
    simp only [Option.bind_some]
    rw [col_bits hl hi hlo hle hw hL hx]
    simp only [Option.bind_some]
    unfold column_pack_x2_4 column_pack_b3
    rw [lt_, w64 (by omega) (by omega)]
    rfl) (by
    show column_pack_l1 l lo (w : Int) ((l.length * w : Nat) : Int) (ofN (by_ ((l.length * w + 7) / 8) (V w (ds lo l) % 2 ^ (l.length * w)))) (l.length : Int) = _
    unfold column_pack_l1
    have hv := V_lt hL
    rw [ds_length] at hv
    rw [if_neg (by simp), Nat.mod_eq_of_lt hv])
  have e0 : ofN (by_ ((l.length * w + 7) / 8) (V w (ds lo l) % 2 ^ (0 * w))) = List.replicate ((l.length * w + 7) / 8) 0 := by
    rw [Nat.zero_mul, Nat.pow_zero, Nat.mod_one]
    unfold ofN by_
    rw [List.map_map, List.eq_replicate_iff]
    refine ⟨by simp, fun b hb => ?_⟩
    obtain ⟨j, _, rfl⟩ := List.mem_map.1 hb
    simp
  rw [e0] at this
  simpa using this
end
end Go.Proofs.YteodeedejjcmgaaDoor.P
namespace Go.Proofs.YteodeedejjcmgaaDoor.P
open Go Go.RowKit Go.Proofs.YteodeedejjcmgaaDoor.E Go.Proofs.YteodeedejjcmgaaDoor.M
set_option linter.unusedVariables false
set_option linter.unusedSectionVars false
section
variable {l : List Int} {lo : Int} {w : Nat} (hl : l.length ≤ 4096) (hi : I64 l) (hlo : i64 lo) (hle : ∀ x ∈ l, lo ≤ x) (hw : w ≤ 64) (hL : Lt w (ds lo l)) {pre : List Int} (hp : pre.length ≤ 100)
include hl hi hlo hle hw hL hp
end
theorem col_min {x : Int} {l : List Int} (hl : (x :: l).length ≤ 4096) : slices_Min_int64_int64 (x :: l) = some (mn x l) := by
  simp only [List.length_cons] at hl
  unfold slices_Min_int64_int64
  rw [if_neg (by simp only [decide_eq_true_eq, List.length_cons]; omega), show at_ (x :: l) 0 = some x from rfl]
  simp only [Option.bind_some]
  have := loop_to (b := fun s : Int × Int => slices_Min_int64_int64_l1 (x :: l) s.1 s.2) (fun k => (mn x (l.take k), ((k + 1 : Nat) : Int))) (t := mn x l) l.length (fun k hk => by
    have hx := List.getElem?_eq_getElem hk
    show slices_Min_int64_int64_l1 (x :: l) (mn x (l.take k)) ((k + 1 : Nat) : Int) = _
    unfold slices_Min_int64_int64_l1
    rw [if_pos (by simp only [decide_eq_true_eq, List.length_cons]; omega), at_int rfl (by rw [List.getElem?_cons_succ]; exact hx)]
    simp only [Option.bind_some, lt_]
    rw [w64 (by omega) (by omega), take_snoc hx, mn_snoc]
    rfl) (by
    show slices_Min_int64_int64_l1 (x :: l) (mn x (l.take l.length)) ((l.length + 1 : Nat) : Int) = _
    unfold slices_Min_int64_int64_l1
    rw [if_neg (by simp), List.take_length])
  rw [show ((x, 1) : Int × Int) = (fun k => (mn x (l.take k), ((k + 1 : Nat) : Int))) 0 from rfl, this]
  rfl
section
variable {l : List Int} {lo : Int} (hl : l.length ≤ 4096) (hi : I64 l) (hlo : i64 lo) (hle : ∀ x ∈ l, lo ≤ x)
include hl hi hlo hle
omit hl in
theorem ds_bl : ∀ d ∈ ds lo l, bl d ≤ 64 := by
  intro d hd
  obtain ⟨x, hx, rfl⟩ := List.mem_map.1 hd
  exact bl_le 64 _ (d_eq (hi x hx) hlo (hle x hx)).2
omit hl in
theorem wdt_64 (k : Nat) : wdt ((ds lo l).take k) ≤ 64 := wdt_le 64 _ _ rfl fun d hd => ds_bl hi hlo hle d (List.mem_of_mem_take hd)
theorem col_wdt : loop (fun s : Int × Int => column_pack_l3 l lo s.1 s.2) (0, 0) = some (wdt (ds lo l) : Int) := by
  have := loop_to (b := fun s : Int × Int => column_pack_l3 l lo s.1 s.2) (fun k => ((wdt ((ds lo l).take k) : Int), (k : Int))) (t := (wdt (ds lo l) : Int)) l.length (fun k hk => by
    have hx := List.getElem?_eq_getElem hk
    obtain ⟨e, e'⟩ := d_eq (hi.get hx) hlo (hle _ (List.mem_of_getElem? hx))
    show column_pack_l3 l lo (wdt ((ds lo l).take k) : Int) (k : Int) = _
    unfold column_pack_l3
    rw [if_pos (by simp only [decide_eq_true_eq]; omega), at_int rfl hx]
    simp only [Option.bind_some, lt_]
    rw [e, Len_eq e']
    simp only [Option.bind_some]
    rw [w64 (by omega) (by omega), List.take_add_one (i := k), ds_get hx]
    show some (Sum.inl _) = some (Sum.inl (((wdt ((ds lo l).take k ++ [(l[k] - lo).toNat]) : Nat) : Int), ((k + 1 : Nat) : Int)))
    rw [wdt_snoc]
    congr 3
    split <;> split <;> omega) (by
    show column_pack_l3 l lo (wdt ((ds lo l).take l.length) : Int) (l.length : Int) = _
    unfold column_pack_l3
    rw [if_neg (by simp), List.take_of_length_le (by rw [ds_length]; exact Nat.le_refl _)])
  simpa [wdt] using this
end
theorem mn_all {x : Int} {l : List Int} : ∀ y ∈ x :: l, mn x l ≤ y := fun y hy => by
  rcases List.mem_cons.1 hy with rfl | h
  · exact (mn_le l y).1
  · exact (mn_le l x).2 y h
theorem col3 {l pre : List Int} (hl : l.length ≤ 4096) (hi : I64 l) (hp : pre.length ≤ 20) : column_pack pre l = some (pre ++ pk l) := by
  cases l with
  | nil => simp [column_pack, pk]
  | cons x l =>
    have hlo := mn_i64 hi
    have hle := mn_all (x := x) (l := l)
    unfold column_pack
    rw [if_neg (by simp; omega), col_min hl]
    simp only [Option.bind_some]
    rw [col_wdt hl hi hlo hle]
    simp only [Option.bind_some]
    have hw : wdt (ds (mn x l) (x :: l)) ≤ 64 := by
      have := wdt_64 hi hlo hle (x :: l).length
      rwa [List.take_of_length_le (by rw [ds_length]; exact Nat.le_refl _)] at this
    have hL := Lt_wdt (ds (mn x l) (x :: l))
    have hz := uv_length64 (zz_lt hlo)
    simp only [pk]
    generalize wdt (ds (mn x l) (x :: l)) = w at hw hL ⊢
    have h2 : (x :: l).length * w ≤ 4096 * 64 := Nat.mul_le_mul hl hw
    unfold column_pack_x3_0 column_pack_b1
    rw [Int_app hlo _ (by omega)]
    simp only [Option.bind_some, lt_]
    rw [u8w (n := (w : Int)) (by omega) (by omega), chk_pos (by simp only [List.length_append, List.length_singleton]; omega), ← Int.natCast_mul, w64 (n := (((x :: l).length * w : Nat) : Int)) (by omega) (by omega), w64 (n := (((x :: l).length * w : Nat) : Int) + 7) (by omega) (by omega),
      show ((((x :: l).length * w : Nat) : Int) + 7).tdiv 8 = ((((x :: l).length * w + 7) / 8 : Nat) : Int) from rfl, w64 (by omega) (by omega), chk_pos (by omega), Int.toNat_natCast, col_all hl hi hlo hle hw hL]
    simp only [Option.bind_some]
    unfold column_pack_x1_2 column_pack_b2
    rw [chk_pos (by simp only [List.length_append, List.length_singleton, ofN_length, by_length]; omega)]
    simp
theorem As_col {w : Nat} {l : List Int} (hw : w < 4) (hl : l.length ≤ 4096) (hi : I64 l) : column_As (w : Int) l = some (asL w l) := by
  have hu := uv_length64 (n := l.length) (by omega)
  unfold column_As
  rw [lt_, u64w (by omega) (by omega), Uint_app _ _ (by omega) (by simp; omega)]
  simp only [Option.bind_some]
  have hp : ([(w : Int)] ++ uv l.length).length ≤ 20 := by simp; omega
  unfold asL
  match w, hw with
  | 0, _ =>
    rw [if_pos (by rfl), col0 hl hi hp]
    simp [column_As_x1_1, column_As_b2, column_As_b1, body]
  | 1, _ =>
    rw [if_neg (by decide), if_pos (by rfl), col1 hl hp]
    simp [column_As_x2_3, column_As_b3, column_As_b1, body]
  | 2, _ =>
    rw [if_neg (by decide), if_neg (by decide), if_pos (by rfl), col2 hl hi hp]
    simp [column_As_x3_5, column_As_b4, column_As_b1, body]
  | 3, _ =>
    rw [if_neg (by decide), if_neg (by decide), if_neg (by decide), if_pos (by rfl), col3 hl hi hp]
    simp [column_As_b1, body]
def shorter (a b : List Int) : List Int := if b.length < a.length then b else a
def intsL (l : List Int) : List Int := shorter (shorter (shorter (asL 0 l) (asL 1 l)) (asL 2 l)) (asL 3 l)
theorem Ints_col {l : List Int} (hl : l.length ≤ 4096) (hi : I64 l) : column_Ints l = some (intsL l) := by
  have hA : ∀ w : Nat, w < 4 → column_As (w : Int) l = some (asL w l) := fun w hw => As_col hw hl hi
  unfold intsL
  unfold column_Ints
  obtain ⟨p, hp⟩ : ∃ p : Nat → List Int, ∀ w, p w = asL w l := ⟨_, fun _ => rfl⟩
  have step : ∀ (b : List Int) (w : Nat), 1 ≤ w → w < 4 → column_Ints_l1 l b (w : Int) = some (.inl (shorter b (p w), ((w + 1 : Nat) : Int))) := by
    intro b w h1 h4
    unfold column_Ints_l1 column_Ints_b2 shorter
    rw [if_pos (by simp only [decide_eq_true_eq]; omega), hA w h4, hp]
    simp only [Option.bind_some, lt_]
    rw [u8w (by omega) (by omega)]
    by_cases h : (asL w l).length < b.length
    · rw [if_pos (by simp only [decide_eq_true_eq]; omega), if_pos h]; rfl
    · rw [if_neg (by simp only [decide_eq_true_eq]; omega), if_neg h]; rfl
  have h0 := hA 0 (by decide)
  rw [show ((0 : Nat) : Int) = 0 from rfl] at h0
  rw [h0, ← hp 0, ← hp 1, ← hp 2, ← hp 3]
  clear hA h0 hp
  simp only [Option.bind_some]
  have h4 : ∀ b, column_Ints_l1 l b ((4 : Nat) : Int) = some (.inr b) := by
    intro b
    unfold column_Ints_l1
    rw [if_neg (by decide)]
  have := ((loop_nxt (b := fun s : List Int × Int => column_Ints_l1 l s.1 s.2) (s := (p 0, ((1 : Nat) : Int))) (step (p 0) 1 (by decide) (by decide))).trans
    ((loop_nxt (b := fun s : List Int × Int => column_Ints_l1 l s.1 s.2) (s := (shorter (p 0) (p 1), ((2 : Nat) : Int))) (step _ 2 (by decide) (by decide))).trans
    ((loop_nxt (b := fun s : List Int × Int => column_Ints_l1 l s.1 s.2) (s := (shorter (shorter (p 0) (p 1)) (p 2), ((3 : Nat) : Int))) (step _ 3 (by decide) (by decide))).trans (loop_end (b := fun s : List Int × Int => column_Ints_l1 l s.1 s.2) (s := (shorter (shorter (shorter (p 0) (p 1)) (p 2)) (p 3), ((4 : Nat) : Int))) (h4 _)))))
  rw [show (1 : Int) = ((1 : Nat) : Int) from rfl, this]
  rfl
end Go.Proofs.YteodeedejjcmgaaDoor.P
