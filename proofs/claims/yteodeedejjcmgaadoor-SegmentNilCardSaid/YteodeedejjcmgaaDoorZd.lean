/- Texts of the claim, joined: what it uses of Mcr, Drf, Mrf, Drg, Mrg, Dtx, Mtx. -/
import Derived.Test.YteodeedejjcmgaaDoorZc
namespace Go.Proofs.YteodeedejjcmgaaDoor.M
open Go Go.RowKit Go.Proofs.YteodeedejjcmgaaDoor.E
set_option linter.unusedVariables false
set_option maxRecDepth 100000
set_option maxHeartbeats 4000000
set_option linter.unusedSimpArgs false
theorem F_column_Reader_Check {r : World} {L : List HP} {w : World} {Z : Nat → Prop} {wz : World} (a0 : S106) (a1 : Bool) (g0 : Nat) {y : ((S106) ⊕ (S106))} (hF : column_Reader_Check a0 a1 = some y) (qz : Nat) (hZ : L[qz]? = some (zone Z wz)) (hS : SH r (obj106 Z wz g0 a0 :: L) w) :
  RetS Tryd.prog 59 #[.pointer (some ⟨g0, 0, none⟩), .bool a1] w badC y (fun y v w' => v = .tuple #[] ∧ SH r (obj106 Z wz g0 y :: L) w') (fun y w' => SH r (obj106 Z wz g0 y :: L) w') := by
 refine enterS Tryd.func59 rfl Tryd.ntmps59 [(0, .pointer (some ⟨g0, 0, none⟩)), (1, .bool a1)] rfl (by simp) ?_
 intro ac hA Qf hQ hQn hQp
 unfold column_Reader_Check at hF
 obtain ⟨A101, n102, c103, hS⟩ := obj106_open hS
 replace hS := hS.pk 1
 have hQ0 := SH.unpure hS
 clear hS
 obtain ⟨h104, hS⟩ := hQ0
 refine ws fun K105 hK105 => ?_
 refine x_m hA rfl fun ac hA => ?_
 refine x_v hA (r_not rfl (hA.ev rfl)) rfl fun ac hA => ?_
 refine wn (hK105 _ _ ?_)
 refine c_if hA rfl (fun hb106 => ?_) fun hb106 => ?_
 ·replace hF := ift hb106 hF
  refine wp_reg ?_
  refine x_v (v := .agg #[]) hA (r_build (ps := #[]) rfl (mapev2 hA rfl) (fun w => by kernel_rfl)) rfl fun ac hA => ?_
  refine x_v hA (r_makeI Tryd.underlying102 rfl rfl (hA.ev rfl)) rfl fun ac hA => ?_
  refine x_panic hA ?_ rfl rfl rfl
  replace hS := SH.pure_ h104 hS
  replace hS := hS.pk 1
  replace hS := obj106_mk (x := a0) hS
  cases hF
  exact hQp _ rfl _ _ hA.defers hS
 replace hF := iff' hb106 hF
 refine wp_skip ?_
 replace hS := SH.pure_ h104 hS
 replace hS := hS.pk 1
 replace hS := obj106_mk (x := a0) hS
 cases hF
 refine hQn _ rfl _ _ ?_
 refine lv0n Tryd.results59 hA ?_
 exact ⟨rfl, hS⟩
theorem F_column_Reader_Byte {r : World} {L : List HP} {w : World} {Z : Nat → Prop} {wz : World} (a0 : S106) (g0 : Nat) {y : ((Int × S106) ⊕ (S106))} (hF : column_Reader_Byte a0 = some y) (qz : Nat) (hZ : L[qz]? = some (zone Z wz)) (hS : SH r (obj106 Z wz g0 a0 :: L) w) :
  RetS Tryd.prog 76 #[.pointer (some ⟨g0, 0, none⟩)] w badC y (fun y v w' => v = .int .u8 y.1 ∧ SH r (obj106 Z wz g0 y.2 :: L) w') (fun y w' => SH r (obj106 Z wz g0 y :: L) w') := by
 refine enterS Tryd.func76 rfl Tryd.ntmps76 [(0, .pointer (some ⟨g0, 0, none⟩))] rfl (by simp) ?_
 intro ac hA Qf hQ hQn hQp
 unfold column_Reader_Byte at hF
 obtain ⟨A101, n102, c103, hS⟩ := obj106_open hS
 replace hS := hS.pk 1
 have hQ0 := SH.unpure hS
 clear hS
 obtain ⟨h104, hS⟩ := hQ0
 refine ws fun K105 hK105 => ?_
 refine x_m hA rfl fun ac hA => ?_
 refine wn (hK105 _ _ ?_)
 refine ws fun K106 hK106 => ?_
 refine x_m hA rfl fun ac hA => ?_
 refine x_m hA rfl fun ac hA => ?_
 refine x_v hA (r_nilCheck rfl (hA.ev rfl)) rfl fun ac hA => ?_
 refine x_fab fa106_0 hA (fun ac hA => ?_) rfl rfl rfl rfl rfl
 refine x_ld Tryd.underlying24 (hS.cell 0 rfl 0 _ rfl) hA (fun ac hA => ?_) rfl rfl rfl rfl rfl rfl
 refine x_len Tryd.underlying24 (hS.rdl 1 (h104.rdl qz hZ) rfl).2.1 hA (fun ac hA => ?_) rfl rfl rfl rfl rfl
 refine x_v hA (r_gtI rfl (hA.ev rfl) (hA.ev rfl)) rfl fun ac hA => ?_
 replace hS := SH.pure_ h104 hS
 replace hS := hS.pk 1
 replace hS := obj106_mk (x := a0) hS
 obtain ⟨y107, h108, hF⟩ := bnd hF
 rcases y107 with y107 | y107
 rotate_left
 ·replace hF := sum_r hF
  refine x_callp (vs := #[.pointer (some ⟨g0, 0, none⟩), .bool (decide (0 < (a0.f0.length : Int)))]) en59 hA (RetS.rf (F_column_Reader_Check (L := L) a0 (decide (0 < (a0.f0.length : Int))) g0 h108 (qz + 0) hZ hS)) (fun w hR => ?_) rfl rfl rfl rfl rfl
  replace hS := hR
  obtain ⟨A109, n110, c111, hS⟩ := obj106_open hS
  replace hS := hS.pk 1
  have hQ0 := SH.unpure hS
  clear hS
  obtain ⟨h112, hS⟩ := hQ0
  replace hS := SH.pure_ h112 hS
  replace hS := hS.pk 1
  replace hS := obj106_mk (x := y107) hS
  cases hF
  exact hQp _ rfl _ _ hA.defers hS
 replace hF := sum_l hF
 refine x_callw (vs := #[.pointer (some ⟨g0, 0, none⟩), .bool (decide (0 < (a0.f0.length : Int)))]) en59 hA (RetS.lf (F_column_Reader_Check (L := L) a0 (decide (0 < (a0.f0.length : Int))) g0 h108 (qz + 0) hZ hS)) (fun v ac w hR hA => ?_) rfl rfl rfl rfl rfl rfl rfl
 obtain ⟨rfl, hS⟩ := hR
 obtain ⟨A113, n114, c115, hS⟩ := obj106_open hS
 replace hS := hS.pk 1
 have hQ0 := SH.unpure hS
 clear hS
 obtain ⟨h116, hS⟩ := hQ0
 refine wn (hK106 _ _ ?_)
 refine ws fun K117 hK117 => ?_
 refine x_m hA rfl fun ac hA => ?_
 refine x_v hA (r_nilCheck rfl (hA.ev rfl)) rfl fun ac hA => ?_
 refine x_fab fa106_0 hA (fun ac hA => ?_) rfl rfl rfl rfl rfl
 refine x_ld Tryd.underlying24 (hS.cell 0 rfl 0 _ rfl) hA (fun ac hA => ?_) rfl rfl rfl rfl rfl rfl
 obtain ⟨x118, h119, hF⟩ := bnd hF
 refine x_ia Tryd.underlying24 sz5 (hS.rdl 1 (h116.rdl qz hZ) rfl) h119 hA (fun ac hA => ?_) rfl rfl rfl rfl rfl rfl
 obtain ⟨cs, hV, hc120⟩ := el (hS.rdl 1 (h116.rdl qz hZ) rfl) h119
 obtain rfl := hV
 refine x_ld Tryd.underlying5 (hc120 0 _ rfl) hA (fun ac hA => ?_) rfl rfl rfl rfl rfl rfl
 refine x_m hA rfl fun ac hA => ?_
 refine wn (hK117 _ _ ?_)
 refine ws fun K121 hK121 => ?_
 refine x_m hA rfl fun ac hA => ?_
 refine x_m hA rfl fun ac hA => ?_
 refine x_v hA (r_nilCheck rfl (hA.ev rfl)) rfl fun ac hA => ?_
 refine x_fab fa106_0 hA (fun ac hA => ?_) rfl rfl rfl rfl rfl
 refine x_ld Tryd.underlying24 (hS.cell 0 rfl 0 _ rfl) hA (fun ac hA => ?_) rfl rfl rfl rfl rfl rfl
 obtain ⟨l122, h123, hF⟩ := bnd hF
 obtain ⟨A126, n127, c128, e125, h124⟩ := imm_lc h116 h123
 refine x_v (v := .slice A126 n127 c128) hA (rv_e e125 (r_slice_l Tryd.underlying24 sz5 rfl (hA.ev rfl) (hA.ev rfl) (cutq (hS.rdl 1 (h116.rdl qz hZ) rfl) h123).1 (cutq (hS.rdl 1 (h116.rdl qz hZ) rfl) h123).2.2.2.2.2)) rfl fun ac hA => ?_
 refine x_v hA (r_nilCheck rfl (hA.ev rfl)) rfl fun ac hA => ?_
 refine x_fab fa106_0 hA (fun ac hA => ?_) rfl rfl rfl rfl rfl
 refine x_stb 0 sz24 hA hS rfl (fun  ac w hS hA => ?_) rfl rfl rfl rfl rfl rfl rfl rfl
 refine wn (hK121 _ _ ?_)
 refine ws fun K129 hK129 => ?_
 refine x_m hA rfl fun ac hA => ?_
 refine x_m hA rfl fun ac hA => ?_
 refine wn (hK129 _ _ ?_)
 refine wp_ret ?_
 replace hS := SH.pure_ h124 hS
 replace hS := hS.pk 1
 replace hS := obj106_mk (x := (⟨l122⟩ : S106)) hS
 cases hF
 refine hQ _ rfl _ _ ?_
 refine lv Tryd.results76 hA rfl ?_
 exact ⟨rfl, hS⟩
theorem F_column_Reader_Uint {r : World} {L : List HP} {w : World} {Z : Nat → Prop} {wz : World} (a0 : S106) (a1 : Int) (g0 : Nat) {y : ((Int × S106) ⊕ (S106))} (hF : column_Reader_Uint a0 a1 = some y) (qz : Nat) (hZ : L[qz]? = some (zone Z wz)) (hS : SH r (obj106 Z wz g0 a0 :: L) w) :
  RetS Tryd.prog 58 #[.pointer (some ⟨g0, 0, none⟩), .int .u64 a1] w badC y (fun y v w' => v = .int .u64 y.1 ∧ SH r (obj106 Z wz g0 y.2 :: L) w') (fun y w' => SH r (obj106 Z wz g0 y :: L) w') := by
 refine enterS Tryd.func58 rfl Tryd.ntmps58 [(0, .pointer (some ⟨g0, 0, none⟩)), (1, .int .u64 a1)] rfl (by simp) ?_
 intro ac hA Qf hQ hQn hQp
 unfold column_Reader_Uint at hF
 obtain ⟨A101, n102, c103, hS⟩ := obj106_open hS
 replace hS := hS.pk 1
 have hQ0 := SH.unpure hS
 clear hS
 obtain ⟨h104, hS⟩ := hQ0
 refine ws fun K105 hK105 => ?_
 refine x_m hA rfl fun ac hA => ?_
 refine wn (hK105 _ _ ?_)
 refine ws fun K106 hK106 => ?_
 refine x_m hA rfl fun ac hA => ?_
 refine wn (hK106 _ _ ?_)
 refine ws fun K107 hK107 => ?_
 refine x_m hA rfl fun ac hA => ?_
 refine wn (hK107 _ _ ?_)
 refine wp_block_k fun Kx108 hKx108 => ?_
 obtain ⟨t473, hl473, hF⟩ := bnd hF
 have hR473 := hF
 refine wp_loop_fn hl473 (fun s ac w => ∃ (A289 : Option Addr) (n290 : Nat) (c291 : Nat), Imm Z wz (kI .u8) A289 n290 c291 s.1 ∧ FR 48 [] ac [(0, .pointer (some ⟨g0, 0, none⟩)), (1, .int .u64 a1), (5, .int .u64 s.2.1), (6, .int .i64 s.2.2)] ∧ SH r (blk g0 106 [.slice A289 n290 c291] :: L) w) ⟨A101, n102, c103, h104, hA.sub _ rfl, hS⟩ ?_
 intro N473 s473 o473 hF N473_ T473_ ac w hLab
 obtain ⟨l288, x293, x294⟩ := s473
 replace hF : column_Reader_Uint_l1 a1 l288 x293 x294 = some o473 := hF
 unfold column_Reader_Uint_l1 at hF
 try dsimp only at hLab
 obtain ⟨A289, n290, c291, h292, hA, hS⟩ := hLab
 refine wp_seq_k fun K475 hK475 => ?_
 refine wp_block_k fun Kx476 hKx476 => ?_
 refine ws fun K477 hK477 => ?_
 refine x_m hA rfl fun ac hA => ?_
 replace hS := SH.pure_ h292 hS
 replace hS := hS.pk 1
 replace hS := obj106_mk (x := (⟨l288⟩ : S106)) hS
 obtain ⟨y478, h479, hF⟩ := bnd hF
 rcases y478 with y478 | y478
 rotate_left
 ·replace hF := sum_r hF
  refine x_callp (vs := #[.pointer (some ⟨g0, 0, none⟩)]) en76 hA (RetS.rf (F_column_Reader_Byte (L := L) (⟨l288⟩ : S106) g0 h479 (qz + 0) hZ hS)) (fun w hR => ?_) rfl rfl rfl rfl rfl
  replace hS := hR
  obtain ⟨A480, n481, c482, hS⟩ := obj106_open hS
  replace hS := hS.pk 1
  have hQ0 := SH.unpure hS
  clear hS
  obtain ⟨h483, hS⟩ := hQ0
  replace hS := SH.pure_ h483 hS
  replace hS := hS.pk 1
  replace hS := obj106_mk (x := y478) hS
  cases hF
  have ht := T473_ _ rfl
  subst ht
  replace hF := hR473
  replace hF : some (.inr y478) = some y := hF
  cases hF
  exact hQp _ rfl _ _ hA.defers hS
 replace hF := sum_l hF
 refine x_callw (vs := #[.pointer (some ⟨g0, 0, none⟩)]) en76 hA (RetS.lf (F_column_Reader_Byte (L := L) (⟨l288⟩ : S106) g0 h479 (qz + 0) hZ hS)) (fun v ac w hR hA => ?_) rfl rfl rfl rfl rfl rfl rfl
 obtain ⟨rfl, hS⟩ := hR
 obtain ⟨A484, n485, c486, hS⟩ := obj106_open hS
 replace hS := hS.pk 1
 have hQ0 := SH.unpure hS
 clear hS
 obtain ⟨h487, hS⟩ := hQ0
 refine x_m hA rfl fun ac hA => ?_
 refine wn (hK477 _ _ ?_)
 refine wp_seq_k fun K488 hK488 => ?_
 have hj1 : ∀ (l521 : (List Int)), column_Reader_Uint_j1 a1 x293 x294 y478 l521 = some o473 → ∀ (A522 : Option Addr) (n523 : Nat) (c524 : Nat) (h525 : Imm Z wz (kI .u8) A522 n523 c524 l521) (ac : Act) (w : World), FR 48 [] ac [(0, .pointer (some ⟨g0, 0, none⟩)), (1, .int .u64 a1), (5, .int .u64 x293), (6, .int .i64 x294), (7, .int .u8 y478.1)] → SH r (blk g0 106 [.slice A522 n523 c524] :: L) w → K488 ac w := by
  intro l521 hF A522 n523 c524 h525 ac w hA hS
  unfold column_Reader_Uint_j1 at hF
  refine hK488 _ _ ?_
  refine ws fun K526 hK526 => ?_
  refine x_m hA rfl fun ac hA => ?_
  refine x_m hA rfl fun ac hA => ?_
  obtain ⟨x527, h528, hF⟩ := ltt_ hF
  refine x_v (v := .int .u8 x527) hA (rv_i h528 (r_and rfl (hA.ev rfl) (hA.ev rfl))) rfl fun ac hA => ?_
  obtain ⟨x529, h530, hF⟩ := ltt_ hF
  refine x_v (v := .int .u64 x529) hA (rv_i h530 (r_convI Tryd.underlying5 Tryd.underlying31 rfl (hA.ev rfl))) rfl fun ac hA => ?_
  refine x_m hA rfl fun ac hA => ?_
  obtain ⟨x531, h532, hF⟩ := ltt_ hF
  refine x_v (v := .int .i64 x531) hA (rv_i h532 (r_mul rfl (hA.ev rfl) (hA.ev rfl))) rfl fun ac hA => ?_
  obtain ⟨h533, hF⟩ := chk_some hF
  obtain ⟨x534, h535, hF⟩ := ltt_ hF
  refine x_v (v := .int .u64 x534) hA (rv_i h535 (r_shl rfl (hA.ev rfl) (hA.ev rfl) h533)) rfl fun ac hA => ?_
  obtain ⟨x536, h537, hF⟩ := ltt_ hF
  refine x_v (v := .int .u64 x536) hA (rv_i h537 (r_or rfl (hA.ev rfl) (hA.ev rfl))) rfl fun ac hA => ?_
  refine x_m hA rfl fun ac hA => ?_
  refine wn (hK526 _ _ ?_)
  refine ws fun K538 hK538 => ?_
  refine x_m hA rfl fun ac hA => ?_
  refine x_v hA (r_ltI rfl (hA.ev rfl) (hA.ev rfl)) rfl fun ac hA => ?_
  refine wn (hK538 _ _ ?_)
  refine c_if hA rfl (fun hb539 => ?_) fun hb539 => ?_
  ·replace hF := ift hb539 hF
   refine wp_seq_k fun K540 hK540 => ?_
   have hj2 : ∀ (l573 : (List Int)), column_Reader_Uint_j2 x536 l573 = some o473 → ∀ (A574 : Option Addr) (n575 : Nat) (c576 : Nat) (h577 : Imm Z wz (kI .u8) A574 n575 c576 l573) (ac : Act) (w : World), FR 48 [] ac [(0, .pointer (some ⟨g0, 0, none⟩)), (5, .int .u64 x536)] → SH r (blk g0 106 [.slice A574 n575 c576] :: L) w → K540 ac w := by
    intro l573 hF A574 n575 c576 h577 ac w hA hS
    unfold column_Reader_Uint_j2 at hF
    refine hK540 _ _ ?_
    refine ws fun K578 hK578 => ?_
    refine x_m hA rfl fun ac hA => ?_
    refine x_m hA rfl fun ac hA => ?_
    refine wn (hK578 _ _ ?_)
    refine wp_ret ?_
    replace hS := SH.pure_ h577 hS
    replace hS := hS.pk 1
    replace hS := obj106_mk (x := (⟨l573⟩ : S106)) hS
    cases hF
    have ht := T473_ _ rfl
    subst ht
    replace hF := hR473
    replace hF : some (.inl (x536, (⟨l573⟩ : S106))) = some y := hF
    cases hF
    refine hQ _ rfl _ _ ?_
    refine lv Tryd.results58 hA rfl ?_
    exact ⟨rfl, hS⟩
   refine wp_reg ?_
   refine x_m hA rfl fun ac hA => ?_
   refine x_m hA rfl fun ac hA => ?_
   refine x_m hA rfl fun ac hA => ?_
   refine x_v hA (r_leI rfl (hA.ev rfl) (hA.ev rfl)) rfl fun ac hA => ?_
   refine x_m hA rfl fun ac hA => ?_
   refine bcase (b := decide (x536 ≤ a1)) (fun hb579 => ?_) fun hb579 => ?_
   ·replace hF := ift hb579 hF
    refine x_on hb579 hA ?_ rfl rfl rfl
    refine x_m hA rfl fun ac hA => ?_
    refine x_on hb579 hA ?_ rfl rfl rfl
    refine x_v hA (r_eqI rfl (hA.ev rfl) (hA.ev rfl)) rfl fun ac hA => ?_
    refine x_on hb579 hA ?_ rfl rfl rfl
    refine x_m hA rfl fun ac hA => ?_
    refine bcase (b := x294 == 0) (fun hb580 => ?_) fun hb580 => ?_
    ·replace hF := ift hb580 hF
     refine x_off hb580 hA (fun ac hA => ?_) rfl rfl rfl rfl rfl
     refine x_off hb580 hA (fun ac hA => ?_) rfl rfl rfl rfl rfl
     refine x_on hb579 hA ?_ rfl rfl rfl
     refine x_pickt hb580 hA (fun ac hA => ?_) rfl rfl rfl rfl rfl rfl
     refine x_pickt hb579 hA (fun ac hA => ?_) rfl rfl rfl rfl rfl rfl
     replace hS := SH.pure_ h525 hS
     replace hS := hS.pk 1
     replace hS := obj106_mk (x := (⟨l521⟩ : S106)) hS
     obtain ⟨y581, h582, hF⟩ := bnd hF
     rcases y581 with y581 | y581
     rotate_left
     ·replace hF := sum_r hF
      refine x_callp (vs := #[.pointer (some ⟨g0, 0, none⟩), .bool true]) en59 hA (RetS.rf (F_column_Reader_Check (L := L) (⟨l521⟩ : S106) true g0 h582 (qz + 0) hZ hS)) (fun w hR => ?_) rfl rfl rfl rfl rfl
      replace hS := hR
      obtain ⟨A583, n584, c585, hS⟩ := obj106_open hS
      replace hS := hS.pk 1
      have hQ0 := SH.unpure hS
      clear hS
      obtain ⟨h586, hS⟩ := hQ0
      replace hS := SH.pure_ h586 hS
      replace hS := hS.pk 1
      replace hS := obj106_mk (x := y581) hS
      cases hF
      have ht := T473_ _ rfl
      subst ht
      replace hF := hR473
      replace hF : some (.inr y581) = some y := hF
      cases hF
      exact hQp _ rfl _ _ hA.defers hS
     replace hF := sum_l hF
     refine x_callw (vs := #[.pointer (some ⟨g0, 0, none⟩), .bool true]) en59 hA (RetS.lf (F_column_Reader_Check (L := L) (⟨l521⟩ : S106) true g0 h582 (qz + 0) hZ hS)) (fun v ac w hR hA => ?_) rfl rfl rfl rfl rfl rfl rfl
     obtain ⟨rfl, hS⟩ := hR
     obtain ⟨A587, n588, c589, hS⟩ := obj106_open hS
     replace hS := hS.pk 1
     have hQ0 := SH.unpure hS
     clear hS
     obtain ⟨h590, hS⟩ := hQ0
     refine wpList_nil ?_
     exact hj2 y581.f0 hF A587 n588 c589 h590 ac w (hA.sub _ rfl) hS
    replace hF := iff' hb580 hF
    refine x_on hb580 hA ?_ rfl rfl rfl
    refine x_m hA rfl fun ac hA => ?_
    refine x_on hb580 hA ?_ rfl rfl rfl
    refine x_v hA (r_gtI rfl (hA.ev rfl) (hA.ev rfl)) rfl fun ac hA => ?_
    refine x_on hb579 hA ?_ rfl rfl rfl
    refine x_pickf hb580 hA (fun ac hA => ?_) rfl rfl rfl rfl rfl rfl
    refine x_pickt hb579 hA (fun ac hA => ?_) rfl rfl rfl rfl rfl rfl
    replace hS := SH.pure_ h525 hS
    replace hS := hS.pk 1
    replace hS := obj106_mk (x := (⟨l521⟩ : S106)) hS
    obtain ⟨y591, h592, hF⟩ := bnd hF
    rcases y591 with y591 | y591
    rotate_left
    ·replace hF := sum_r hF
     refine x_callp (vs := #[.pointer (some ⟨g0, 0, none⟩), .bool (decide (0 < y478.1))]) en59 hA (RetS.rf (F_column_Reader_Check (L := L) (⟨l521⟩ : S106) (decide (0 < y478.1)) g0 h592 (qz + 0) hZ hS)) (fun w hR => ?_) rfl rfl rfl rfl rfl
     replace hS := hR
     obtain ⟨A593, n594, c595, hS⟩ := obj106_open hS
     replace hS := hS.pk 1
     have hQ0 := SH.unpure hS
     clear hS
     obtain ⟨h596, hS⟩ := hQ0
     replace hS := SH.pure_ h596 hS
     replace hS := hS.pk 1
     replace hS := obj106_mk (x := y591) hS
     cases hF
     have ht := T473_ _ rfl
     subst ht
     replace hF := hR473
     replace hF : some (.inr y591) = some y := hF
     cases hF
     exact hQp _ rfl _ _ hA.defers hS
    replace hF := sum_l hF
    refine x_callw (vs := #[.pointer (some ⟨g0, 0, none⟩), .bool (decide (0 < y478.1))]) en59 hA (RetS.lf (F_column_Reader_Check (L := L) (⟨l521⟩ : S106) (decide (0 < y478.1)) g0 h592 (qz + 0) hZ hS)) (fun v ac w hR hA => ?_) rfl rfl rfl rfl rfl rfl rfl
    obtain ⟨rfl, hS⟩ := hR
    obtain ⟨A597, n598, c599, hS⟩ := obj106_open hS
    replace hS := hS.pk 1
    have hQ0 := SH.unpure hS
    clear hS
    obtain ⟨h600, hS⟩ := hQ0
    refine wpList_nil ?_
    exact hj2 y591.f0 hF A597 n598 c599 h600 ac w (hA.sub _ rfl) hS
   replace hF := iff' hb579 hF
   refine x_off hb579 hA (fun ac hA => ?_) rfl rfl rfl rfl rfl
   refine x_off hb579 hA (fun ac hA => ?_) rfl rfl rfl rfl rfl
   refine x_off hb579 hA (fun ac hA => ?_) rfl rfl rfl rfl rfl
   refine x_offU hA (fun ac hA => ?_) rfl rfl rfl rfl rfl
   refine x_offU hA (fun ac hA => ?_) rfl rfl rfl rfl rfl
   refine x_off hb579 hA (fun ac hA => ?_) rfl rfl rfl rfl rfl
   refine x_pickf hb579 hA (fun ac hA => ?_) rfl rfl rfl rfl rfl rfl
   replace hS := SH.pure_ h525 hS
   replace hS := hS.pk 1
   replace hS := obj106_mk (x := (⟨l521⟩ : S106)) hS
   obtain ⟨y601, h602, hF⟩ := bnd hF
   rcases y601 with y601 | y601
   rotate_left
   ·replace hF := sum_r hF
    refine x_callp (vs := #[.pointer (some ⟨g0, 0, none⟩), .bool false]) en59 hA (RetS.rf (F_column_Reader_Check (L := L) (⟨l521⟩ : S106) false g0 h602 (qz + 0) hZ hS)) (fun w hR => ?_) rfl rfl rfl rfl rfl
    replace hS := hR
    obtain ⟨A603, n604, c605, hS⟩ := obj106_open hS
    replace hS := hS.pk 1
    have hQ0 := SH.unpure hS
    clear hS
    obtain ⟨h606, hS⟩ := hQ0
    replace hS := SH.pure_ h606 hS
    replace hS := hS.pk 1
    replace hS := obj106_mk (x := y601) hS
    cases hF
    have ht := T473_ _ rfl
    subst ht
    replace hF := hR473
    replace hF : some (.inr y601) = some y := hF
    cases hF
    exact hQp _ rfl _ _ hA.defers hS
   replace hF := sum_l hF
   refine x_callw (vs := #[.pointer (some ⟨g0, 0, none⟩), .bool false]) en59 hA (RetS.lf (F_column_Reader_Check (L := L) (⟨l521⟩ : S106) false g0 h602 (qz + 0) hZ hS)) (fun v ac w hR hA => ?_) rfl rfl rfl rfl rfl rfl rfl
   obtain ⟨rfl, hS⟩ := hR
   obtain ⟨A607, n608, c609, hS⟩ := obj106_open hS
   replace hS := hS.pk 1
   have hQ0 := SH.unpure hS
   clear hS
   obtain ⟨h610, hS⟩ := hQ0
   refine wpList_nil ?_
   exact hj2 y601.f0 hF A607 n608 c609 h610 ac w (hA.sub _ rfl) hS
  replace hF := iff' hb539 hF
  refine wp_skip ?_
  refine hKx476 _ _ ?_
  refine hK475 _ _ ?_
  refine wp_reg ?_
  refine x_m hA rfl fun ac hA => ?_
  obtain ⟨x611, h612, hF⟩ := ltt_ hF
  refine x_v (v := .int .i64 x611) hA (rv_i h612 (r_add rfl (hA.ev rfl) (hA.ev rfl))) rfl fun ac hA => ?_
  refine x_m hA rfl fun ac hA => ?_
  refine wpList_nil ?_
  cases hF
  exact ⟨_, N473_ _ rfl, A522, n523, c524, h525, hA.sub _ rfl, hS⟩
 refine wp_reg ?_
 refine x_m hA rfl fun ac hA => ?_
 refine x_m hA rfl fun ac hA => ?_
 refine x_v hA (r_ltI rfl (hA.ev rfl) (hA.ev rfl)) rfl fun ac hA => ?_
 refine x_m hA rfl fun ac hA => ?_
 refine bcase (b := decide (x294 < 9)) (fun hb613 => ?_) fun hb613 => ?_
 ·replace hF := ift hb613 hF
  refine x_off hb613 hA (fun ac hA => ?_) rfl rfl rfl rfl rfl
  refine x_off hb613 hA (fun ac hA => ?_) rfl rfl rfl rfl rfl
  refine x_off hb613 hA (fun ac hA => ?_) rfl rfl rfl rfl rfl
  refine x_offU hA (fun ac hA => ?_) rfl rfl rfl rfl rfl
  refine x_offU hA (fun ac hA => ?_) rfl rfl rfl rfl rfl
  refine x_off hb613 hA (fun ac hA => ?_) rfl rfl rfl rfl rfl
  refine x_pickt hb613 hA (fun ac hA => ?_) rfl rfl rfl rfl rfl rfl
  replace hS := SH.pure_ h487 hS
  replace hS := hS.pk 1
  replace hS := obj106_mk (x := y478.2) hS
  obtain ⟨y614, h615, hF⟩ := bnd hF
  rcases y614 with y614 | y614
  rotate_left
  ·replace hF := sum_r hF
   refine x_callp (vs := #[.pointer (some ⟨g0, 0, none⟩), .bool true]) en59 hA (RetS.rf (F_column_Reader_Check (L := L) y478.2 true g0 h615 (qz + 0) hZ hS)) (fun w hR => ?_) rfl rfl rfl rfl rfl
   replace hS := hR
   obtain ⟨A616, n617, c618, hS⟩ := obj106_open hS
   replace hS := hS.pk 1
   have hQ0 := SH.unpure hS
   clear hS
   obtain ⟨h619, hS⟩ := hQ0
   replace hS := SH.pure_ h619 hS
   replace hS := hS.pk 1
   replace hS := obj106_mk (x := y614) hS
   cases hF
   have ht := T473_ _ rfl
   subst ht
   replace hF := hR473
   replace hF : some (.inr y614) = some y := hF
   cases hF
   exact hQp _ rfl _ _ hA.defers hS
  replace hF := sum_l hF
  refine x_callw (vs := #[.pointer (some ⟨g0, 0, none⟩), .bool true]) en59 hA (RetS.lf (F_column_Reader_Check (L := L) y478.2 true g0 h615 (qz + 0) hZ hS)) (fun v ac w hR hA => ?_) rfl rfl rfl rfl rfl rfl rfl
  obtain ⟨rfl, hS⟩ := hR
  obtain ⟨A620, n621, c622, hS⟩ := obj106_open hS
  replace hS := hS.pk 1
  have hQ0 := SH.unpure hS
  clear hS
  obtain ⟨h623, hS⟩ := hQ0
  refine wpList_nil ?_
  exact hj1 y614.f0 hF A620 n621 c622 h623 ac w (hA.sub _ rfl) hS
 replace hF := iff' hb613 hF
 refine x_on hb613 hA ?_ rfl rfl rfl
 refine x_m hA rfl fun ac hA => ?_
 refine x_on hb613 hA ?_ rfl rfl rfl
 refine x_v hA (r_eqI rfl (hA.ev rfl) (hA.ev rfl)) rfl fun ac hA => ?_
 refine x_on hb613 hA ?_ rfl rfl rfl
 refine x_m hA rfl fun ac hA => ?_
 refine bcase (b := x294 == 9) (fun hb624 => ?_) fun hb624 => ?_
 ·replace hF := ift hb624 hF
  refine x_on hb624 hA ?_ rfl rfl rfl
  refine x_m hA rfl fun ac hA => ?_
  refine x_on hb624 hA ?_ rfl rfl rfl
  refine x_v hA (r_ltI rfl (hA.ev rfl) (hA.ev rfl)) rfl fun ac hA => ?_
  refine x_on hb613 hA ?_ rfl rfl rfl
  refine x_pickt hb624 hA (fun ac hA => ?_) rfl rfl rfl rfl rfl rfl
  refine x_pickf hb613 hA (fun ac hA => ?_) rfl rfl rfl rfl rfl rfl
  replace hS := SH.pure_ h487 hS
  replace hS := hS.pk 1
  replace hS := obj106_mk (x := y478.2) hS
  obtain ⟨y625, h626, hF⟩ := bnd hF
  rcases y625 with y625 | y625
  rotate_left
  ·replace hF := sum_r hF
   refine x_callp (vs := #[.pointer (some ⟨g0, 0, none⟩), .bool (decide (y478.1 < 2))]) en59 hA (RetS.rf (F_column_Reader_Check (L := L) y478.2 (decide (y478.1 < 2)) g0 h626 (qz + 0) hZ hS)) (fun w hR => ?_) rfl rfl rfl rfl rfl
   replace hS := hR
   obtain ⟨A627, n628, c629, hS⟩ := obj106_open hS
   replace hS := hS.pk 1
   have hQ0 := SH.unpure hS
   clear hS
   obtain ⟨h630, hS⟩ := hQ0
   replace hS := SH.pure_ h630 hS
   replace hS := hS.pk 1
   replace hS := obj106_mk (x := y625) hS
   cases hF
   have ht := T473_ _ rfl
   subst ht
   replace hF := hR473
   replace hF : some (.inr y625) = some y := hF
   cases hF
   exact hQp _ rfl _ _ hA.defers hS
  replace hF := sum_l hF
  refine x_callw (vs := #[.pointer (some ⟨g0, 0, none⟩), .bool (decide (y478.1 < 2))]) en59 hA (RetS.lf (F_column_Reader_Check (L := L) y478.2 (decide (y478.1 < 2)) g0 h626 (qz + 0) hZ hS)) (fun v ac w hR hA => ?_) rfl rfl rfl rfl rfl rfl rfl
  obtain ⟨rfl, hS⟩ := hR
  obtain ⟨A631, n632, c633, hS⟩ := obj106_open hS
  replace hS := hS.pk 1
  have hQ0 := SH.unpure hS
  clear hS
  obtain ⟨h634, hS⟩ := hQ0
  refine wpList_nil ?_
  exact hj1 y625.f0 hF A631 n632 c633 h634 ac w (hA.sub _ rfl) hS
 replace hF := iff' hb624 hF
 refine x_off hb624 hA (fun ac hA => ?_) rfl rfl rfl rfl rfl
 refine x_off hb624 hA (fun ac hA => ?_) rfl rfl rfl rfl rfl
 refine x_on hb613 hA ?_ rfl rfl rfl
 refine x_pickf hb624 hA (fun ac hA => ?_) rfl rfl rfl rfl rfl rfl
 refine x_pickf hb613 hA (fun ac hA => ?_) rfl rfl rfl rfl rfl rfl
 replace hS := SH.pure_ h487 hS
 replace hS := hS.pk 1
 replace hS := obj106_mk (x := y478.2) hS
 obtain ⟨y635, h636, hF⟩ := bnd hF
 rcases y635 with y635 | y635
 rotate_left
 ·replace hF := sum_r hF
  refine x_callp (vs := #[.pointer (some ⟨g0, 0, none⟩), .bool false]) en59 hA (RetS.rf (F_column_Reader_Check (L := L) y478.2 false g0 h636 (qz + 0) hZ hS)) (fun w hR => ?_) rfl rfl rfl rfl rfl
  replace hS := hR
  obtain ⟨A637, n638, c639, hS⟩ := obj106_open hS
  replace hS := hS.pk 1
  have hQ0 := SH.unpure hS
  clear hS
  obtain ⟨h640, hS⟩ := hQ0
  replace hS := SH.pure_ h640 hS
  replace hS := hS.pk 1
  replace hS := obj106_mk (x := y635) hS
  cases hF
  have ht := T473_ _ rfl
  subst ht
  replace hF := hR473
  replace hF : some (.inr y635) = some y := hF
  cases hF
  exact hQp _ rfl _ _ hA.defers hS
 replace hF := sum_l hF
 refine x_callw (vs := #[.pointer (some ⟨g0, 0, none⟩), .bool false]) en59 hA (RetS.lf (F_column_Reader_Check (L := L) y478.2 false g0 h636 (qz + 0) hZ hS)) (fun v ac w hR hA => ?_) rfl rfl rfl rfl rfl rfl rfl
 obtain ⟨rfl, hS⟩ := hR
 obtain ⟨A641, n642, c643, hS⟩ := obj106_open hS
 replace hS := hS.pk 1
 have hQ0 := SH.unpure hS
 clear hS
 obtain ⟨h644, hS⟩ := hQ0
 refine wpList_nil ?_
 exact hj1 y635.f0 hF A641 n642 c643 h644 ac w (hA.sub _ rfl) hS
theorem F_column_Reader_Int {r : World} {L : List HP} {w : World} {Z : Nat → Prop} {wz : World} (a0 : S106) (g0 : Nat) {y : ((Int × S106) ⊕ (S106))} (hF : column_Reader_Int a0 = some y) (qz : Nat) (hZ : L[qz]? = some (zone Z wz)) (hS : SH r (obj106 Z wz g0 a0 :: L) w) :
  RetS Tryd.prog 60 #[.pointer (some ⟨g0, 0, none⟩)] w badC y (fun y v w' => v = .int .i64 y.1 ∧ SH r (obj106 Z wz g0 y.2 :: L) w') (fun y w' => SH r (obj106 Z wz g0 y :: L) w') := by
 refine enterS Tryd.func60 rfl Tryd.ntmps60 [(0, .pointer (some ⟨g0, 0, none⟩))] rfl (by simp) ?_
 intro ac hA Qf hQ hQn hQp
 unfold column_Reader_Int at hF
 obtain ⟨A101, n102, c103, hS⟩ := obj106_open hS
 replace hS := hS.pk 1
 have hQ0 := SH.unpure hS
 clear hS
 obtain ⟨h104, hS⟩ := hQ0
 refine ws fun K105 hK105 => ?_
 refine x_m hA rfl fun ac hA => ?_
 refine wn (hK105 _ _ ?_)
 refine ws fun K106 hK106 => ?_
 refine x_m hA rfl fun ac hA => ?_
 replace hS := SH.pure_ h104 hS
 replace hS := hS.pk 1
 replace hS := obj106_mk (x := a0) hS
 obtain ⟨y107, h108, hF⟩ := bnd hF
 rcases y107 with y107 | y107
 rotate_left
 ·replace hF := sum_r hF
  refine x_callp (vs := #[.pointer (some ⟨g0, 0, none⟩), .int .u64 18446744073709551615]) en58 hA (RetS.rf (F_column_Reader_Uint (L := L) a0 18446744073709551615 g0 h108 (qz + 0) hZ hS)) (fun w hR => ?_) rfl rfl rfl rfl rfl
  replace hS := hR
  obtain ⟨A109, n110, c111, hS⟩ := obj106_open hS
  replace hS := hS.pk 1
  have hQ0 := SH.unpure hS
  clear hS
  obtain ⟨h112, hS⟩ := hQ0
  replace hS := SH.pure_ h112 hS
  replace hS := hS.pk 1
  replace hS := obj106_mk (x := y107) hS
  cases hF
  exact hQp _ rfl _ _ hA.defers hS
 replace hF := sum_l hF
 refine x_callw (vs := #[.pointer (some ⟨g0, 0, none⟩), .int .u64 18446744073709551615]) en58 hA (RetS.lf (F_column_Reader_Uint (L := L) a0 18446744073709551615 g0 h108 (qz + 0) hZ hS)) (fun v ac w hR hA => ?_) rfl rfl rfl rfl rfl rfl rfl
 obtain ⟨rfl, hS⟩ := hR
 obtain ⟨A113, n114, c115, hS⟩ := obj106_open hS
 replace hS := hS.pk 1
 have hQ0 := SH.unpure hS
 clear hS
 obtain ⟨h116, hS⟩ := hQ0
 refine x_m hA rfl fun ac hA => ?_
 refine wn (hK106 _ _ ?_)
 refine ws fun K117 hK117 => ?_
 refine x_m hA rfl fun ac hA => ?_
 obtain ⟨x118, h119, hF⟩ := ltt_ hF
 refine x_v (v := .int .u64 x118) hA (rv_i h119 (r_shr rfl (hA.ev rfl) (hA.ev rfl) (by decide))) rfl fun ac hA => ?_
 obtain ⟨x120, h121, hF⟩ := ltt_ hF
 refine x_v (v := .int .i64 x120) hA (rv_i h121 (r_convI Tryd.underlying31 Tryd.underlying2 rfl (hA.ev rfl))) rfl fun ac hA => ?_
 refine x_m hA rfl fun ac hA => ?_
 obtain ⟨x122, h123, hF⟩ := ltt_ hF
 refine x_v (v := .int .u64 x122) hA (rv_i h123 (r_and rfl (hA.ev rfl) (hA.ev rfl))) rfl fun ac hA => ?_
 obtain ⟨x124, h125, hF⟩ := ltt_ hF
 refine x_v (v := .int .i64 x124) hA (rv_i h125 (r_convI Tryd.underlying31 Tryd.underlying2 rfl (hA.ev rfl))) rfl fun ac hA => ?_
 refine x_v hA (r_neg rfl (hA.ev rfl)) rfl fun ac hA => ?_
 obtain ⟨x126, h127, hF⟩ := ltt_ hF
 refine x_v (v := .int .i64 x126) hA (rv_i h127 (r_xor rfl (hA.ev rfl) (hA.ev rfl))) rfl fun ac hA => ?_
 refine x_m hA rfl fun ac hA => ?_
 refine wn (hK117 _ _ ?_)
 refine wp_ret ?_
 replace hS := SH.pure_ h116 hS
 replace hS := hS.pk 1
 replace hS := obj106_mk (x := y107.2) hS
 cases hF
 refine hQ _ rfl _ _ ?_
 refine lv Tryd.results60 hA rfl ?_
 exact ⟨rfl, hS⟩
theorem F_column_Reader_Text {r : World} {L : List HP} {w : World} {Z : Nat → Prop} {wz : World} (a0 : S106) (a1 : Int) (g0 : Nat) {y : (((List UInt8) × S106) ⊕ (S106))} (hF : column_Reader_Text a0 a1 = some y) (qz : Nat) (hZ : L[qz]? = some (zone Z wz)) (hS : SH r (obj106 Z wz g0 a0 :: L) w) :
  RetS Tryd.prog 61 #[.pointer (some ⟨g0, 0, none⟩), .int .i64 a1] w badC y (fun y v w' => v = str y.1 ∧ SH r (obj106 Z wz g0 y.2 :: L) w') (fun y w' => SH r (obj106 Z wz g0 y :: L) w') := by
 refine enterS Tryd.func61 rfl Tryd.ntmps61 [(0, .pointer (some ⟨g0, 0, none⟩)), (1, .int .i64 a1)] rfl (by simp) ?_
 intro ac hA Qf hQ hQn hQp
 unfold column_Reader_Text at hF
 obtain ⟨A101, n102, c103, hS⟩ := obj106_open hS
 replace hS := hS.pk 1
 have hQ0 := SH.unpure hS
 clear hS
 obtain ⟨h104, hS⟩ := hQ0
 refine ws fun K105 hK105 => ?_
 refine x_m hA rfl fun ac hA => ?_
 refine wn (hK105 _ _ ?_)
 refine ws fun K106 hK106 => ?_
 refine x_m hA rfl fun ac hA => ?_
 refine x_m hA rfl fun ac hA => ?_
 obtain ⟨x107, h108, hF⟩ := ltt_ hF
 refine x_v (v := .int .u64 x107) hA (rv_i h108 (r_convI Tryd.underlying3 Tryd.underlying31 rfl (hA.ev rfl))) rfl fun ac hA => ?_
 replace hS := SH.pure_ h104 hS
 replace hS := hS.pk 1
 replace hS := obj106_mk (x := a0) hS
 obtain ⟨y109, h110, hF⟩ := bnd hF
 rcases y109 with y109 | y109
 rotate_left
 ·replace hF := sum_r hF
  refine x_callp (vs := #[.pointer (some ⟨g0, 0, none⟩), .int .u64 x107]) en58 hA (RetS.rf (F_column_Reader_Uint (L := L) a0 x107 g0 h110 (qz + 0) hZ hS)) (fun w hR => ?_) rfl rfl rfl rfl rfl
  replace hS := hR
  obtain ⟨A111, n112, c113, hS⟩ := obj106_open hS
  replace hS := hS.pk 1
  have hQ0 := SH.unpure hS
  clear hS
  obtain ⟨h114, hS⟩ := hQ0
  replace hS := SH.pure_ h114 hS
  replace hS := hS.pk 1
  replace hS := obj106_mk (x := y109) hS
  cases hF
  exact hQp _ rfl _ _ hA.defers hS
 replace hF := sum_l hF
 refine x_callw (vs := #[.pointer (some ⟨g0, 0, none⟩), .int .u64 x107]) en58 hA (RetS.lf (F_column_Reader_Uint (L := L) a0 x107 g0 h110 (qz + 0) hZ hS)) (fun v ac w hR hA => ?_) rfl rfl rfl rfl rfl rfl rfl
 obtain ⟨rfl, hS⟩ := hR
 obtain ⟨A115, n116, c117, hS⟩ := obj106_open hS
 replace hS := hS.pk 1
 have hQ0 := SH.unpure hS
 clear hS
 obtain ⟨h118, hS⟩ := hQ0
 refine x_m hA rfl fun ac hA => ?_
 refine wn (hK106 _ _ ?_)
 refine ws fun K119 hK119 => ?_
 refine x_m hA rfl fun ac hA => ?_
 refine x_m hA rfl fun ac hA => ?_
 refine x_m hA rfl fun ac hA => ?_
 refine x_v hA (r_nilCheck rfl (hA.ev rfl)) rfl fun ac hA => ?_
 refine x_fab fa106_0 hA (fun ac hA => ?_) rfl rfl rfl rfl rfl
 refine x_ld Tryd.underlying24 (hS.cell 0 rfl 0 _ rfl) hA (fun ac hA => ?_) rfl rfl rfl rfl rfl rfl
 refine x_len Tryd.underlying24 (hS.rdl 1 (h118.rdl qz hZ) rfl).2.1 hA (fun ac hA => ?_) rfl rfl rfl rfl rfl
 obtain ⟨x120, h121, hF⟩ := ltt_ hF
 refine x_v (v := .int .u64 x120) hA (rv_i h121 (r_convI Tryd.underlying3 Tryd.underlying31 rfl (hA.ev rfl))) rfl fun ac hA => ?_
 refine x_v hA (r_leI rfl (hA.ev rfl) (hA.ev rfl)) rfl fun ac hA => ?_
 replace hS := SH.pure_ h118 hS
 replace hS := hS.pk 1
 replace hS := obj106_mk (x := y109.2) hS
 obtain ⟨y122, h123, hF⟩ := bnd hF
 rcases y122 with y122 | y122
 rotate_left
 ·replace hF := sum_r hF
  refine x_callp (vs := #[.pointer (some ⟨g0, 0, none⟩), .bool (decide (y109.1 ≤ x120))]) en59 hA (RetS.rf (F_column_Reader_Check (L := L) y109.2 (decide (y109.1 ≤ x120)) g0 h123 (qz + 0) hZ hS)) (fun w hR => ?_) rfl rfl rfl rfl rfl
  replace hS := hR
  obtain ⟨A124, n125, c126, hS⟩ := obj106_open hS
  replace hS := hS.pk 1
  have hQ0 := SH.unpure hS
  clear hS
  obtain ⟨h127, hS⟩ := hQ0
  replace hS := SH.pure_ h127 hS
  replace hS := hS.pk 1
  replace hS := obj106_mk (x := y122) hS
  cases hF
  exact hQp _ rfl _ _ hA.defers hS
 replace hF := sum_l hF
 refine x_callw (vs := #[.pointer (some ⟨g0, 0, none⟩), .bool (decide (y109.1 ≤ x120))]) en59 hA (RetS.lf (F_column_Reader_Check (L := L) y109.2 (decide (y109.1 ≤ x120)) g0 h123 (qz + 0) hZ hS)) (fun v ac w hR hA => ?_) rfl rfl rfl rfl rfl rfl rfl
 obtain ⟨rfl, hS⟩ := hR
 obtain ⟨A128, n129, c130, hS⟩ := obj106_open hS
 replace hS := hS.pk 1
 have hQ0 := SH.unpure hS
 clear hS
 obtain ⟨h131, hS⟩ := hQ0
 refine wn (hK119 _ _ ?_)
 refine ws fun K132 hK132 => ?_
 refine x_m hA rfl fun ac hA => ?_
 refine x_v hA (r_nilCheck rfl (hA.ev rfl)) rfl fun ac hA => ?_
 refine x_fab fa106_0 hA (fun ac hA => ?_) rfl rfl rfl rfl rfl
 refine x_ld Tryd.underlying24 (hS.cell 0 rfl 0 _ rfl) hA (fun ac hA => ?_) rfl rfl rfl rfl rfl rfl
 refine x_m hA rfl fun ac hA => ?_
 obtain ⟨l133, h134, hF⟩ := bnd hF
 obtain ⟨A137, n138, c139, e136, h135⟩ := imm_hc h131 h134
 refine x_v (v := .slice A137 n138 c139) hA (rv_e e136 (r_slice_h Tryd.underlying24 sz5 rfl (hA.ev rfl) (hA.ev rfl) (cutq (hS.rdl 1 (h131.rdl qz hZ) rfl) h134).2.2.2.2.1 (cutq (hS.rdl 1 (h131.rdl qz hZ) rfl) h134).2.2.1)) rfl fun ac hA => ?_
 refine x_b2s Tryd.underlying24 Tryd.underlying5 Tryd.underlying9 (hS.rdl 1 (h135.rdl qz hZ) rfl) hA (fun ac hA => ?_) rfl rfl rfl rfl rfl
 refine x_m hA rfl fun ac hA => ?_
 refine wn (hK132 _ _ ?_)
 refine ws fun K140 hK140 => ?_
 refine x_m hA rfl fun ac hA => ?_
 refine x_m hA rfl fun ac hA => ?_
 refine x_v hA (r_nilCheck rfl (hA.ev rfl)) rfl fun ac hA => ?_
 refine x_fab fa106_0 hA (fun ac hA => ?_) rfl rfl rfl rfl rfl
 refine x_ld Tryd.underlying24 (hS.cell 0 rfl 0 _ rfl) hA (fun ac hA => ?_) rfl rfl rfl rfl rfl rfl
 refine x_m hA rfl fun ac hA => ?_
 obtain ⟨l141, h142, hF⟩ := bnd hF
 obtain ⟨A145, n146, c147, e144, h143⟩ := imm_lc h131 h142
 refine x_v (v := .slice A145 n146 c147) hA (rv_e e144 (r_slice_l Tryd.underlying24 sz5 rfl (hA.ev rfl) (hA.ev rfl) (cutq (hS.rdl 1 (h131.rdl qz hZ) rfl) h142).1 (cutq (hS.rdl 1 (h131.rdl qz hZ) rfl) h142).2.2.2.2.2)) rfl fun ac hA => ?_
 refine x_v hA (r_nilCheck rfl (hA.ev rfl)) rfl fun ac hA => ?_
 refine x_fab fa106_0 hA (fun ac hA => ?_) rfl rfl rfl rfl rfl
 refine x_stb 0 sz24 hA hS rfl (fun  ac w hS hA => ?_) rfl rfl rfl rfl rfl rfl rfl rfl
 refine wn (hK140 _ _ ?_)
 refine ws fun K148 hK148 => ?_
 refine x_m hA rfl fun ac hA => ?_
 refine x_m hA rfl fun ac hA => ?_
 refine wn (hK148 _ _ ?_)
 refine wp_ret ?_
 replace hS := SH.pure_ h143 hS
 replace hS := hS.pk 1
 replace hS := obj106_mk (x := (⟨l141⟩ : S106)) hS
 cases hF
 refine hQ _ rfl _ _ ?_
 refine lv Tryd.results61 hA rfl ?_
 exact ⟨rfl, hS⟩
theorem F_column_list_int64 {r : World} {L : List HP} {w : World} {Z : Nat → Prop} {wz : World} (a0 : Int) (a60 : S106) (g60 : Nat) {y : (((List Int) × S106) ⊕ (S106))} (hF : column_list_int64 a0 a60 = some y) (qz : Nat) (hZ : L[qz]? = some (zone Z wz)) (hS : SH r (obj106 Z wz g60 a60 :: L) w) :
  RetS Tryd.prog 92 #[.int .i64 a0, .func (.func 60) #[.pointer (some ⟨g60, 0, none⟩)] #[]] w badC y (fun y v w' => ∃ (B0 : Option Addr) (m0 : Nat) (d0 : Nat), v = .slice B0 m0 d0 ∧ SH r (own (kI .i64) 2 B0 m0 d0 y.1 :: obj106 Z wz g60 y.2 :: L) w') (fun y w' => SH r (obj106 Z wz g60 y :: L) w') := by
 refine enterS Tryd.func92 rfl Tryd.ntmps92 [(0, .int .i64 a0), (1, .func (.func 60) #[.pointer (some ⟨g60, 0, none⟩)] #[])] rfl (by simp) ?_
 intro ac hA Qf hQ hQn hQp
 unfold column_list_int64 at hF
 obtain ⟨A101, n102, c103, hS⟩ := obj106_open hS
 replace hS := hS.pk 1
 have hQ0 := SH.unpure hS
 clear hS
 obtain ⟨h104, hS⟩ := hQ0
 refine ws fun K105 hK105 => ?_
 refine x_m hA rfl fun ac hA => ?_
 refine wn (hK105 _ _ ?_)
 refine ws fun K106 hK106 => ?_
 refine x_m hA rfl fun ac hA => ?_
 refine wn (hK106 _ _ ?_)
 refine wp_seq_k fun K107 hK107 => ?_
 refine ws fun K348 hK348 => ?_
 refine x_m hA rfl fun ac hA => ?_
 refine x_m hA rfl fun ac hA => ?_
 refine wn (hK348 _ _ ?_)
 refine wp_block_k fun Kx349 hKx349 => ?_
 have hb1 : ∀ (l464 : (List Int)) (l469 : (List Int)), column_list_int64_b1 l464 l469 = some y → ∀ (A465 : Option Addr) (n466 : Nat) (c467 : Nat) (A470 : Option Addr) (n471 : Nat) (c472 : Nat) (h468 : Imm Z wz (kI .u8) A465 n466 c467 l464) (ac : Act) (w : World), FR 16 [] ac [(1, .func (.func 60) #[.pointer (some ⟨g60, 0, none⟩)] #[]), (5, .slice A470 n471 c472)] → SH r (blk g60 106 [.slice A465 n466 c467] :: own (kI .i64) 2 A470 n471 c472 l469 :: L) w → Kx349 ac w := by
  intro l464 l469 hF A465 n466 c467 A470 n471 c472 h468 ac w hA hS
  unfold column_list_int64_b1 at hF
  refine hKx349 _ _ ?_
  refine hK107 _ _ ?_
  refine ws fun K473 hK473 => ?_
  refine x_m hA rfl fun ac hA => ?_
  refine x_m hA rfl fun ac hA => ?_
  refine wn (hK473 _ _ ?_)
  refine wp_ret ?_
  replace hS := SH.pure_ h468 hS
  replace hS := hS.pk 1
  replace hS := obj106_mk (x := (⟨l464⟩ : S106)) hS
  replace hS := hS.pk 1
  cases hF
  refine hQ _ rfl _ _ ?_
  refine lv Tryd.results92 hA rfl ?_
  exact ⟨A470, n471, c472, rfl, hS⟩
 obtain ⟨t564, hl564, hF⟩ := bnd hF
 have hR564 := hF
 have hx564_0 : ∀ (l556 : (List Int)) (l561 : (List Int)), (.inl (l556, l561)) = t564 → ∀ (A557 : Option Addr) (n558 : Nat) (c559 : Nat) (A562 : Option Addr) (n563 : Nat) (c564 : Nat) (h560 : Imm Z wz (kI .u8) A557 n558 c559 l556) (ac : Act) (w : World), FR 16 [] ac [(1, .func (.func 60) #[.pointer (some ⟨g60, 0, none⟩)] #[]), (5, .slice A562 n563 c564)] → SH r (blk g60 106 [.slice A557 n558 c559] :: own (kI .i64) 2 A562 n563 c564 l561 :: L) w → Kx349 ac w := by
  intro l556 l561 ht A557 n558 c559 A562 n563 c564 h560 ac w hA hS
  subst ht
  replace hF : column_list_int64_x1_0 l556 l561 = some y := hF
  unfold column_list_int64_x1_0 at hF
  exact hb1 l556 l561 hF A557 n558 c559 A562 n563 c564 h560 ac w (hA.sub _ rfl) hS
 replace hS := SH.nil_own (d := (kI .i64)) (e := 2) hS
 replace hS := hS.pk 1
 refine wp_loop_fn hl564 (fun s ac w => ∃ (A515 : Option Addr) (n516 : Nat) (c517 : Nat) (A520 : Option Addr) (n521 : Nat) (c522 : Nat), Imm Z wz (kI .u8) A515 n516 c517 s.1 ∧ FR 16 [] ac [(1, .func (.func 60) #[.pointer (some ⟨g60, 0, none⟩)] #[]), (5, .slice A520 n521 c522), (6, .int .i64 a0), (7, .int .i64 s.2.2)] ∧ SH r (blk g60 106 [.slice A515 n516 c517] :: own (kI .i64) 2 A520 n521 c522 s.2.1 :: L) w) ⟨A101, n102, c103, none, 0, 0, h104, hA.sub _ rfl, hS⟩ ?_
 intro N564 s564 o564 hF N564_ T564_ ac w hLab
 obtain ⟨l514, l519, x523⟩ := s564
 replace hF : column_list_int64_l1 a0 l514 l519 x523 = some o564 := hF
 unfold column_list_int64_l1 at hF
 try dsimp only at hLab
 obtain ⟨A515, n516, c517, A520, n521, c522, h518, hA, hS⟩ := hLab
 refine ws fun K566 hK566 => ?_
 refine x_v hA (r_ltI rfl (hA.ev rfl) (hA.ev rfl)) rfl fun ac hA => ?_
 refine wn (hK566 _ _ ?_)
 refine wp_seq_k fun K567 hK567 => ?_
 refine c_if hA rfl (fun hb568 => ?_) fun hb568 => ?_
 ·replace hF := ift hb568 hF
  refine wp_skip ?_
  refine hK567 _ _ ?_
  refine wp_seq_k fun K569 hK569 => ?_
  refine wp_block_k fun Kx570 hKx570 => ?_
  refine wp_reg ?_
  refine x_m hA rfl fun ac hA => ?_
  refine x_m hA rfl fun ac hA => ?_
  replace hS := SH.pure_ h518 hS
  replace hS := hS.pk 1
  replace hS := obj106_mk (x := (⟨l514⟩ : S106)) hS
  obtain ⟨y571, h572, hF⟩ := bnd hF
  rcases y571 with y571 | y571
  rotate_left
  ·replace hF := sum_r hF
   refine x_callp (vs := #[]) en60 hA (RetS.rf (F_column_Reader_Int (L := own (kI .i64) 2 A520 n521 c522 l519 :: L) (⟨l514⟩ : S106) g60 h572 (qz + 1) hZ hS)) (fun w hR => ?_) rfl rfl rfl rfl rfl
   replace hS := hR
   obtain ⟨A573, n574, c575, hS⟩ := obj106_open hS
   replace hS := hS.pk 1
   have hQ0 := SH.unpure hS
   clear hS
   obtain ⟨h576, hS⟩ := hQ0
   replace hS := SH.pure_ h576 hS
   replace hS := hS.pk 1
   replace hS := obj106_mk (x := y571) hS
   replace hS := hS.drop 1
   cases hF
   have ht := T564_ _ rfl
   subst ht
   replace hF := hR564
   replace hF : some (.inr y571) = some y := hF
   cases hF
   exact hQp _ rfl _ _ hA.defers hS
  replace hF := sum_l hF
  refine x_callw (vs := #[]) en60 hA (RetS.lf (F_column_Reader_Int (L := own (kI .i64) 2 A520 n521 c522 l519 :: L) (⟨l514⟩ : S106) g60 h572 (qz + 1) hZ hS)) (fun v ac w hR hA => ?_) rfl rfl rfl rfl rfl rfl rfl
  obtain ⟨rfl, hS⟩ := hR
  obtain ⟨A577, n578, c579, hS⟩ := obj106_open hS
  replace hS := hS.pk 1
  have hQ0 := SH.unpure hS
  clear hS
  obtain ⟨h580, hS⟩ := hQ0
  refine x_bsl (d := (kI .i64)) (e := 2) (ps := #[(0, .int .i64 y571.1)]) (cells := [.int .i64 y571.1]) (xs := [y571.1]) (fun w => by kernel_rfl) rfl ⟨[.int .i64 y571.1], _, rfl, rfl, rfl⟩ hA hS (fun g581 ac w hS hA => ?_) rfl rfl rfl rfl rfl rfl
  obtain ⟨h582, hF⟩ := chk_some hF
  have hr := hS.rd 0 rfl
  refine x_app 2 inf2 Tryd.underlying90 hA hS hr.1 hr.2.1 h582 rfl (fun A583 n584 c585 ac w hS hA => ?_) rfl rfl rfl rfl rfl rfl rfl rfl rfl
  refine x_m hA rfl fun ac hA => ?_
  refine wpList_nil ?_
  refine hKx570 _ _ ?_
  refine hK569 _ _ ?_
  refine wp_reg ?_
  obtain ⟨x586, h587, hF⟩ := ltt_ hF
  refine x_v (v := .int .i64 x586) hA (rv_i h587 (r_add rfl (hA.ev rfl) (hA.ev rfl))) rfl fun ac hA => ?_
  refine x_m hA rfl fun ac hA => ?_
  refine wpList_nil ?_
  replace hS := hS.drop 1
  replace hS := hS.pk 1
  cases hF
  exact ⟨_, N564_ _ rfl, A577, n578, c579, A583, n584, c585, h580, hA.sub _ rfl, hS⟩
 replace hF := iff' hb568 hF
 refine wp_exit ?_
 cases hF
 exact hx564_0 l514 l519 (T564_ _ rfl) A515 n516 c517 A520 n521 c522 h518 ac w (hA.sub _ rfl) hS
theorem F_column_unpack {r : World} {L : List HP} {w : World} {Z : Nat → Prop} {wz : World} (a0 : S106) (a1 : Int) (g0 : Nat) {y : (((List Int) × S106) ⊕ (S106))} (hF : column_unpack a0 a1 = some y) (qz : Nat) (hZ : L[qz]? = some (zone Z wz)) (hS : SH r (obj106 Z wz g0 a0 :: L) w) :
  RetS Tryd.prog 93 #[.pointer (some ⟨g0, 0, none⟩), .int .i64 a1] w badC y (fun y v w' => ∃ (B0 : Option Addr) (m0 : Nat) (d0 : Nat), v = .slice B0 m0 d0 ∧ SH r (own (kI .i64) 2 B0 m0 d0 y.1 :: obj106 Z wz g0 y.2 :: L) w') (fun y w' => SH r (obj106 Z wz g0 y :: L) w') := by
 refine enterS Tryd.func93 rfl Tryd.ntmps93 [(0, .pointer (some ⟨g0, 0, none⟩)), (1, .int .i64 a1)] rfl (by simp) ?_
 intro ac hA Qf hQ hQn hQp
 unfold column_unpack at hF
 obtain ⟨A101, n102, c103, hS⟩ := obj106_open hS
 replace hS := hS.pk 1
 have hQ0 := SH.unpure hS
 clear hS
 obtain ⟨h104, hS⟩ := hQ0
 refine ws fun K105 hK105 => ?_
 refine x_m hA rfl fun ac hA => ?_
 refine wn (hK105 _ _ ?_)
 refine ws fun K106 hK106 => ?_
 refine x_m hA rfl fun ac hA => ?_
 replace hS := SH.pure_ h104 hS
 replace hS := hS.pk 1
 replace hS := obj106_mk (x := a0) hS
 obtain ⟨y107, h108, hF⟩ := bnd hF
 rcases y107 with y107 | y107
 rotate_left
 ·replace hF := sum_r hF
  refine x_callp (vs := #[.pointer (some ⟨g0, 0, none⟩)]) en60 hA (RetS.rf (F_column_Reader_Int (L := L) a0 g0 h108 (qz + 0) hZ hS)) (fun w hR => ?_) rfl rfl rfl rfl rfl
  replace hS := hR
  obtain ⟨A109, n110, c111, hS⟩ := obj106_open hS
  replace hS := hS.pk 1
  have hQ0 := SH.unpure hS
  clear hS
  obtain ⟨h112, hS⟩ := hQ0
  replace hS := SH.pure_ h112 hS
  replace hS := hS.pk 1
  replace hS := obj106_mk (x := y107) hS
  cases hF
  exact hQp _ rfl _ _ hA.defers hS
 replace hF := sum_l hF
 refine x_callw (vs := #[.pointer (some ⟨g0, 0, none⟩)]) en60 hA (RetS.lf (F_column_Reader_Int (L := L) a0 g0 h108 (qz + 0) hZ hS)) (fun v ac w hR hA => ?_) rfl rfl rfl rfl rfl rfl rfl
 obtain ⟨rfl, hS⟩ := hR
 obtain ⟨A113, n114, c115, hS⟩ := obj106_open hS
 replace hS := hS.pk 1
 have hQ0 := SH.unpure hS
 clear hS
 obtain ⟨h116, hS⟩ := hQ0
 refine x_m hA rfl fun ac hA => ?_
 replace hS := SH.pure_ h116 hS
 replace hS := hS.pk 1
 replace hS := obj106_mk (x := y107.2) hS
 obtain ⟨y117, h118, hF⟩ := bnd hF
 rcases y117 with y117 | y117
 rotate_left
 ·replace hF := sum_r hF
  refine x_callp (vs := #[.pointer (some ⟨g0, 0, none⟩)]) en76 hA (RetS.rf (F_column_Reader_Byte (L := L) y107.2 g0 h118 (qz + 0) hZ hS)) (fun w hR => ?_) rfl rfl rfl rfl rfl
  replace hS := hR
  obtain ⟨A119, n120, c121, hS⟩ := obj106_open hS
  replace hS := hS.pk 1
  have hQ0 := SH.unpure hS
  clear hS
  obtain ⟨h122, hS⟩ := hQ0
  replace hS := SH.pure_ h122 hS
  replace hS := hS.pk 1
  replace hS := obj106_mk (x := y117) hS
  cases hF
  exact hQp _ rfl _ _ hA.defers hS
 replace hF := sum_l hF
 refine x_callw (vs := #[.pointer (some ⟨g0, 0, none⟩)]) en76 hA (RetS.lf (F_column_Reader_Byte (L := L) y107.2 g0 h118 (qz + 0) hZ hS)) (fun v ac w hR hA => ?_) rfl rfl rfl rfl rfl rfl rfl
 obtain ⟨rfl, hS⟩ := hR
 obtain ⟨A123, n124, c125, hS⟩ := obj106_open hS
 replace hS := hS.pk 1
 have hQ0 := SH.unpure hS
 clear hS
 obtain ⟨h126, hS⟩ := hQ0
 obtain ⟨x127, h128, hF⟩ := ltt_ hF
 refine x_v (v := .int .i64 x127) hA (rv_i h128 (r_convI Tryd.underlying5 Tryd.underlying3 rfl (hA.ev rfl))) rfl fun ac hA => ?_
 refine x_m hA rfl fun ac hA => ?_
 refine x_m hA rfl fun ac hA => ?_
 refine wn (hK106 _ _ ?_)
 refine wp_seq_k fun K129 hK129 => ?_
 have hj1 : ∀ (l157 : (List Int)), column_unpack_j1 a1 y107 x127 l157 = some y → ∀ (A158 : Option Addr) (n159 : Nat) (c160 : Nat) (h161 : Imm Z wz (kI .u8) A158 n159 c160 l157) (ac : Act) (w : World), FR 98 [] ac [(0, .pointer (some ⟨g0, 0, none⟩)), (1, .int .i64 a1), (5, .int .i64 y107.1), (6, .int .i64 x127)] → SH r (blk g0 106 [.slice A158 n159 c160] :: L) w → K129 ac w := by
  intro l157 hF A158 n159 c160 h161 ac w hA hS
  unfold column_unpack_j1 at hF
  refine hK129 _ _ ?_
  refine ws fun K162 hK162 => ?_
  refine x_m hA rfl fun ac hA => ?_
  obtain ⟨h163, hF⟩ := chk_some hF
  refine x_mks (d := (kI .i64)) (bytes := 8) 0 inf2 rfl Tryd.underlying90 h163 hA hS (fun g164 ac w hS hA => ?_) rfl rfl rfl rfl rfl rfl
  refine x_m hA rfl fun ac hA => ?_
  refine wn (hK162 _ _ ?_)
  refine wp_seq_k fun K165 hK165 => ?_
  refine ws fun K1501 hK1501 => ?_
  refine x_m hA rfl fun ac hA => ?_
  refine x_v hA (r_nilCheck rfl (hA.ev rfl)) rfl fun ac hA => ?_
  refine x_fab fa106_0 hA (fun ac hA => ?_) rfl rfl rfl rfl rfl
  refine x_ld Tryd.underlying24 (hS.cell 1 rfl 0 _ rfl) hA (fun ac hA => ?_) rfl rfl rfl rfl rfl rfl
  refine x_len Tryd.underlying24 (hS.rdl 2 (h161.rdl qz hZ) rfl).2.1 hA (fun ac hA => ?_) rfl rfl rfl rfl rfl
  obtain ⟨x1502, h1503, hF⟩ := ltt_ hF
  refine x_v (v := .int .i64 x1502) hA (rv_i h1503 (r_mul rfl (hA.ev rfl) (hA.ev rfl))) rfl fun ac hA => ?_
  refine x_m hA rfl fun ac hA => ?_
  refine wn (hK1501 _ _ ?_)
  refine wp_block_k fun Kx1504 hKx1504 => ?_
  have hb1 : ∀ (l2175 : (List Int)) (l2180 : (List Int)), column_unpack_b1 y107 l2175 l2180 = some y → ∀ (A2176 : Option Addr) (n2177 : Nat) (c2178 : Nat) (h2179 : Imm Z wz (kI .u8) A2176 n2177 c2178 l2175) (ac : Act) (w : World), FR 98 [] ac [(0, .pointer (some ⟨g0, 0, none⟩)), (5, .int .i64 y107.1), (7, .slice (some ⟨g164, 0, none⟩) a1.toNat a1.toNat)] → SH r (blk g0 106 [.slice A2176 n2177 c2178] :: own (kI .i64) 2 (some ⟨g164, 0, none⟩) a1.toNat a1.toNat l2180 :: L) w → Kx1504 ac w := by
   intro l2175 l2180 hF A2176 n2177 c2178 h2179 ac w hA hS
   unfold column_unpack_b1 at hF
   refine hKx1504 _ _ ?_
   refine hK165 _ _ ?_
   refine wp_seq_k fun K2181 hK2181 => ?_
   refine ws fun K2280 hK2280 => ?_
   refine x_m hA rfl fun ac hA => ?_
   refine x_len Tryd.underlying90 (hS.rd 1 rfl).2.1 hA (fun ac hA => ?_) rfl rfl rfl rfl rfl
   refine x_m hA rfl fun ac hA => ?_
   refine wn (hK2280 _ _ ?_)
   refine wp_block_k fun Kx2281 hKx2281 => ?_
   have hb2 : ∀ (l2329 : (List Int)), column_unpack_b2 l2329 = some y → ∀ (ac : Act) (w : World), FR 98 [] ac [(0, .pointer (some ⟨g0, 0, none⟩)), (7, .slice (some ⟨g164, 0, none⟩) a1.toNat a1.toNat)] → SH r (blk g0 106 [.slice A2176 n2177 c2178] :: own (kI .i64) 2 (some ⟨g164, 0, none⟩) a1.toNat a1.toNat l2329 :: L) w → Kx2281 ac w := by
    intro l2329 hF ac w hA hS
    unfold column_unpack_b2 at hF
    refine hKx2281 _ _ ?_
    refine hK2181 _ _ ?_
    refine ws fun K2330 hK2330 => ?_
    refine x_m hA rfl fun ac hA => ?_
    refine x_v hA (r_nilCheck rfl (hA.ev rfl)) rfl fun ac hA => ?_
    refine x_fab fa106_0 hA (fun ac hA => ?_) rfl rfl rfl rfl rfl
    refine x_stb 0 sz24 hA hS rfl (fun  ac w hS hA => ?_) rfl rfl rfl rfl rfl rfl rfl rfl
    refine wn (hK2330 _ _ ?_)
    refine ws fun K2331 hK2331 => ?_
    refine x_m hA rfl fun ac hA => ?_
    refine x_m hA rfl fun ac hA => ?_
    refine wn (hK2331 _ _ ?_)
    refine wp_ret ?_
    replace hS := SH.pure_ (Imm.nil : Imm Z wz (kI .u8) none 0 0 []) hS
    replace hS := hS.pk 1
    replace hS := obj106_mk (x := (⟨[]⟩ : S106)) hS
    replace hS := hS.pk 1
    cases hF
    refine hQ _ rfl _ _ ?_
    refine lv Tryd.results93 hA rfl ?_
    exact ⟨some ⟨g164, 0, none⟩, a1.toNat, a1.toNat, rfl, hS⟩
   obtain ⟨t2364, hl2364, hF⟩ := bnd hF
   have hx2364_2 : ∀ (l2364 : (List Int)), (l2364) = t2364 → ∀ (ac : Act) (w : World), FR 98 [] ac [(0, .pointer (some ⟨g0, 0, none⟩)), (7, .slice (some ⟨g164, 0, none⟩) a1.toNat a1.toNat)] → SH r (blk g0 106 [.slice A2176 n2177 c2178] :: own (kI .i64) 2 (some ⟨g164, 0, none⟩) a1.toNat a1.toNat l2364 :: L) w → Kx2281 ac w := by
    intro l2364 ht ac w hA hS
    subst ht
    replace hF : column_unpack_x1_2 l2364 = some y := hF
    unfold column_unpack_x1_2 at hF
    exact hb2 l2364 hF ac w (hA.sub _ rfl) hS
   refine wp_loop_fn hl2364 (fun s ac w => FR 98 [] ac [(0, .pointer (some ⟨g0, 0, none⟩)), (5, .int .i64 y107.1), (7, .slice (some ⟨g164, 0, none⟩) a1.toNat a1.toNat), (82, .int .i64 (l2180.length : Int)), (83, .int .i64 s.2)] ∧ SH r (blk g0 106 [.slice A2176 n2177 c2178] :: own (kI .i64) 2 (some ⟨g164, 0, none⟩) a1.toNat a1.toNat s.1 :: L) w) ⟨hA.sub _ rfl, hS⟩ ?_
   intro N2364 s2364 o2364 hF N2364_ T2364_ ac w hLab
   obtain ⟨l2347, x2348⟩ := s2364
   replace hF : column_unpack_l1 y107 l2180 l2347 x2348 = some o2364 := hF
   unfold column_unpack_l1 at hF
   try dsimp only at hLab
   obtain ⟨hA, hS⟩ := hLab
   refine ws fun K2366 hK2366 => ?_
   refine x_v hA (r_ltI rfl (hA.ev rfl) (hA.ev rfl)) rfl fun ac hA => ?_
   refine wn (hK2366 _ _ ?_)
   refine wp_seq_k fun K2367 hK2367 => ?_
   refine c_if hA rfl (fun hb2368 => ?_) fun hb2368 => ?_
   ·replace hF := ift hb2368 hF
    refine wp_skip ?_
    refine hK2367 _ _ ?_
    refine wp_seq_k fun K2369 hK2369 => ?_
    refine wp_block_k fun Kx2370 hKx2370 => ?_
    refine ws fun K2371 hK2371 => ?_
    refine x_m hA rfl fun ac hA => ?_
    refine x_m hA rfl fun ac hA => ?_
    refine wn (hK2371 _ _ ?_)
    refine wp_reg ?_
    refine x_m hA rfl fun ac hA => ?_
    refine x_m hA rfl fun ac hA => ?_
    obtain ⟨x2372, h2373, hF⟩ := bnd hF
    refine x_ia Tryd.underlying90 sz2 (hS.rd 1 rfl) h2373 hA (fun ac hA => ?_) rfl rfl rfl rfl rfl rfl
    obtain ⟨cs, hV, hc2374⟩ := el (hS.rd 1 rfl) h2373
    obtain rfl := hV
    refine x_ld Tryd.underlying2 (hc2374 0 _ rfl) hA (fun ac hA => ?_) rfl rfl rfl rfl rfl rfl
    refine x_m hA rfl fun ac hA => ?_
    obtain ⟨x2375, h2376, hF⟩ := ltt_ hF
    refine x_v (v := .int .i64 x2375) hA (rv_i h2376 (r_add rfl (hA.ev rfl) (hA.ev rfl))) rfl fun ac hA => ?_
    refine x_ia Tryd.underlying90 sz2 (hS.rd 1 rfl) h2373 hA (fun ac hA => ?_) rfl rfl rfl rfl rfl rfl
    refine x_sto (z' := x2375) (off := 0) (vs := [.int .i64 x2375]) 1 sz2 hA hS rfl (at_some h2373).2.2 (fun c h => by cases h; rfl) (fun  ac w hS hA => ?_) rfl rfl rfl rfl rfl rfl rfl rfl
    refine wpList_nil ?_
    refine hKx2370 _ _ ?_
    refine hK2369 _ _ ?_
    refine wp_reg ?_
    obtain ⟨x2377, h2378, hF⟩ := ltt_ hF
    refine x_v (v := .int .i64 x2377) hA (rv_i h2378 (r_add rfl (hA.ev rfl) (hA.ev rfl))) rfl fun ac hA => ?_
    refine x_m hA rfl fun ac hA => ?_
    refine wpList_nil ?_
    replace hS := hS.pk 1
    cases hF
    exact ⟨_, N2364_ _ rfl, hA.sub _ rfl, hS⟩
   replace hF := iff' hb2368 hF
   refine wp_exit ?_
   cases hF
   exact hx2364_2 l2347 (T2364_ _ rfl) ac w (hA.sub _ rfl) hS
  obtain ⟨t2833, hl2833, hF⟩ := bnd hF
  have hR2833 := hF
  have hx2833_0 : ∀ (l2828 : (List Int)) (l2833 : (List Int)), (.inl (l2828, l2833)) = t2833 → ∀ (A2829 : Option Addr) (n2830 : Nat) (c2831 : Nat) (h2832 : Imm Z wz (kI .u8) A2829 n2830 c2831 l2828) (ac : Act) (w : World), FR 98 [] ac [(0, .pointer (some ⟨g0, 0, none⟩)), (5, .int .i64 y107.1), (7, .slice (some ⟨g164, 0, none⟩) a1.toNat a1.toNat)] → SH r (blk g0 106 [.slice A2829 n2830 c2831] :: own (kI .i64) 2 (some ⟨g164, 0, none⟩) a1.toNat a1.toNat l2833 :: L) w → Kx1504 ac w := by
   intro l2828 l2833 ht A2829 n2830 c2831 h2832 ac w hA hS
   subst ht
   replace hF : column_unpack_x2_0 y107 l2828 l2833 = some y := hF
   unfold column_unpack_x2_0 at hF
   exact hb1 l2828 l2833 hF A2829 n2830 c2831 h2832 ac w (hA.sub _ rfl) hS
  replace hS := hS.pk 1
  refine wp_loop_fn hl2833 (fun s ac w => ∃ (A2601 : Option Addr) (n2602 : Nat) (c2603 : Nat), Imm Z wz (kI .u8) A2601 n2602 c2603 s.1 ∧ FR 98 [] ac [(0, .pointer (some ⟨g0, 0, none⟩)), (1, .int .i64 a1), (5, .int .i64 y107.1), (6, .int .i64 x127), (7, .slice (some ⟨g164, 0, none⟩) a1.toNat a1.toNat), (40, .int .i64 x1502), (41, .int .i64 s.2.2)] ∧ SH r (blk g0 106 [.slice A2601 n2602 c2603] :: own (kI .i64) 2 (some ⟨g164, 0, none⟩) a1.toNat a1.toNat s.2.1 :: L) w) ⟨A158, n159, c160, h161, hA.sub _ rfl, hS⟩ ?_
  intro N2833 s2833 o2833 hF N2833_ T2833_ ac w hLab
  obtain ⟨l2600, l2605, x2606⟩ := s2833
  replace hF : column_unpack_l2 a1 x127 x1502 l2600 l2605 x2606 = some o2833 := hF
  unfold column_unpack_l2 at hF
  try dsimp only at hLab
  obtain ⟨A2601, n2602, c2603, h2604, hA, hS⟩ := hLab
  refine ws fun K2835 hK2835 => ?_
  refine x_v hA (r_ltI rfl (hA.ev rfl) (hA.ev rfl)) rfl fun ac hA => ?_
  refine wn (hK2835 _ _ ?_)
  refine wp_seq_k fun K2836 hK2836 => ?_
  refine c_if hA rfl (fun hb2837 => ?_) fun hb2837 => ?_
  ·replace hF := ift hb2837 hF
   refine wp_skip ?_
   refine hK2836 _ _ ?_
   refine wp_seq_k fun K2838 hK2838 => ?_
   refine wp_block_k fun Kx2943 hKx2943 => ?_
   have hb3 : ∀ (l2992 : (List Int)) (l2997 : (List Int)), column_unpack_b3 x2606 l2992 l2997 = some o2833 → ∀ (A2993 : Option Addr) (n2994 : Nat) (c2995 : Nat) (h2996 : Imm Z wz (kI .u8) A2993 n2994 c2995 l2992) (ac : Act) (w : World), FR 98 [] ac [(0, .pointer (some ⟨g0, 0, none⟩)), (1, .int .i64 a1), (5, .int .i64 y107.1), (6, .int .i64 x127), (7, .slice (some ⟨g164, 0, none⟩) a1.toNat a1.toNat), (40, .int .i64 x1502), (41, .int .i64 x2606)] → SH r (blk g0 106 [.slice A2993 n2994 c2995] :: own (kI .i64) 2 (some ⟨g164, 0, none⟩) a1.toNat a1.toNat l2997 :: L) w → Kx2943 ac w := by
    intro l2992 l2997 hF A2993 n2994 c2995 h2996 ac w hA hS
    unfold column_unpack_b3 at hF
    refine hKx2943 _ _ ?_
    refine hK2838 _ _ ?_
    refine wp_reg ?_
    obtain ⟨x2998, h2999, hF⟩ := ltt_ hF
    refine x_v (v := .int .i64 x2998) hA (rv_i h2999 (r_add rfl (hA.ev rfl) (hA.ev rfl))) rfl fun ac hA => ?_
    refine x_m hA rfl fun ac hA => ?_
    refine wpList_nil ?_
    cases hF
    exact ⟨_, N2833_ _ rfl, A2993, n2994, c2995, h2996, hA.sub _ rfl, hS⟩
   refine ws fun K3000 hK3000 => ?_
   refine x_m hA rfl fun ac hA => ?_
   refine x_m hA rfl fun ac hA => ?_
   refine wn (hK3000 _ _ ?_)
   refine ws fun K3001 hK3001 => ?_
   refine x_m hA rfl fun ac hA => ?_
   refine x_v hA (r_nilCheck rfl (hA.ev rfl)) rfl fun ac hA => ?_
   refine x_fab fa106_0 hA (fun ac hA => ?_) rfl rfl rfl rfl rfl
   refine x_ld Tryd.underlying24 (hS.cell 0 rfl 0 _ rfl) hA (fun ac hA => ?_) rfl rfl rfl rfl rfl rfl
   refine x_m hA rfl fun ac hA => ?_
   obtain ⟨x3002, h3003, hF⟩ := ltt_ hF
   refine x_v (v := .int .i64 x3002) hA (rv_i h3003 (r_quo rfl (hA.ev rfl) (hA.ev rfl) (by decide))) rfl fun ac hA => ?_
   obtain ⟨x3004, h3005, hF⟩ := bnd hF
   refine x_ia Tryd.underlying24 sz5 (hS.rdl 2 (h2604.rdl qz hZ) rfl) h3005 hA (fun ac hA => ?_) rfl rfl rfl rfl rfl rfl
   obtain ⟨cs, hV, hc3006⟩ := el (hS.rdl 2 (h2604.rdl qz hZ) rfl) h3005
   obtain rfl := hV
   refine x_ld Tryd.underlying5 (hc3006 0 _ rfl) hA (fun ac hA => ?_) rfl rfl rfl rfl rfl rfl
   refine x_m hA rfl fun ac hA => ?_
   obtain ⟨x3007, h3008, hF⟩ := ltt_ hF
   refine x_v (v := .int .i64 x3007) hA (rv_i h3008 (r_rem rfl (hA.ev rfl) (hA.ev rfl) (by decide))) rfl fun ac hA => ?_
   obtain ⟨h3009, hF⟩ := chk_some hF
   obtain ⟨x3010, h3011, hF⟩ := ltt_ hF
   refine x_v (v := .int .u8 x3010) hA (rv_i h3011 (r_shr rfl (hA.ev rfl) (hA.ev rfl) h3009)) rfl fun ac hA => ?_
   obtain ⟨x3012, h3013, hF⟩ := ltt_ hF
   refine x_v (v := .int .u64 x3012) hA (rv_i h3013 (r_convI Tryd.underlying5 Tryd.underlying31 rfl (hA.ev rfl))) rfl fun ac hA => ?_
   obtain ⟨x3014, h3015, hF⟩ := ltt_ hF
   refine x_v (v := .int .u64 x3014) hA (rv_i h3015 (r_and rfl (hA.ev rfl) (hA.ev rfl))) rfl fun ac hA => ?_
   refine x_m hA rfl fun ac hA => ?_
   refine wn (hK3001 _ _ ?_)
   refine wp_seq_k fun K3016 hK3016 => ?_
   refine ws fun K3017 hK3017 => ?_
   refine x_m hA rfl fun ac hA => ?_
   refine x_m hA rfl fun ac hA => ?_
   refine x_m hA rfl fun ac hA => ?_
   obtain ⟨x3018, h3019, hF⟩ := ltt_ hF
   refine x_v (v := .int .i64 x3018) hA (rv_i h3019 (r_mul rfl (hA.ev rfl) (hA.ev rfl))) rfl fun ac hA => ?_
   refine x_v hA (r_geI rfl (hA.ev rfl) (hA.ev rfl)) rfl fun ac hA => ?_
   refine wn (hK3017 _ _ ?_)
   refine c_if hA rfl (fun hb3020 => ?_) fun hb3020 => ?_
   ·replace hF := ift hb3020 hF
    refine ws fun K3021 hK3021 => ?_
    refine x_m hA rfl fun ac hA => ?_
    refine x_m hA rfl fun ac hA => ?_
    refine x_v hA (r_eqI rfl (hA.ev rfl) (hA.ev rfl)) rfl fun ac hA => ?_
    replace hS := SH.pure_ h2604 hS
    replace hS := hS.pk 1
    replace hS := obj106_mk (x := (⟨l2600⟩ : S106)) hS
    obtain ⟨y3022, h3023, hF⟩ := bnd hF
    rcases y3022 with y3022 | y3022
    rotate_left
    ·replace hF := sum_r hF
     refine x_callp (vs := #[.pointer (some ⟨g0, 0, none⟩), .bool (x3014 == 0)]) en59 hA (RetS.rf (F_column_Reader_Check (L := own (kI .i64) 2 (some ⟨g164, 0, none⟩) a1.toNat a1.toNat l2605 :: L) (⟨l2600⟩ : S106) (x3014 == 0) g0 h3023 (qz + 1) hZ hS)) (fun w hR => ?_) rfl rfl rfl rfl rfl
     replace hS := hR
     obtain ⟨A3024, n3025, c3026, hS⟩ := obj106_open hS
     replace hS := hS.pk 1
     have hQ0 := SH.unpure hS
     clear hS
     obtain ⟨h3027, hS⟩ := hQ0
     replace hS := SH.pure_ h3027 hS
     replace hS := hS.pk 1
     replace hS := obj106_mk (x := y3022) hS
     replace hS := hS.drop 1
     cases hF
     have ht := T2833_ _ rfl
     subst ht
     replace hF := hR2833
     replace hF : some (.inr y3022) = some y := hF
     cases hF
     exact hQp _ rfl _ _ hA.defers hS
    replace hF := sum_l hF
    refine x_callw (vs := #[.pointer (some ⟨g0, 0, none⟩), .bool (x3014 == 0)]) en59 hA (RetS.lf (F_column_Reader_Check (L := own (kI .i64) 2 (some ⟨g164, 0, none⟩) a1.toNat a1.toNat l2605 :: L) (⟨l2600⟩ : S106) (x3014 == 0) g0 h3023 (qz + 1) hZ hS)) (fun v ac w hR hA => ?_) rfl rfl rfl rfl rfl rfl rfl
    obtain ⟨rfl, hS⟩ := hR
    obtain ⟨A3028, n3029, c3030, hS⟩ := obj106_open hS
    replace hS := hS.pk 1
    have hQ0 := SH.unpure hS
    clear hS
    obtain ⟨h3031, hS⟩ := hQ0
    refine wn (hK3021 _ _ ?_)
    refine wp_exit ?_
    exact hb3 y3022.f0 l2605 hF A3028 n3029 c3030 h3031 ac w (hA.sub _ rfl) hS
   replace hF := iff' hb3020 hF
   refine wp_skip ?_
   refine hK3016 _ _ ?_
   refine wp_draw [0, 0, 0, 6, 15, 31, 0, 0, 0, 384, 960, 1984, 4095, 8191, 16383] [14] rfl hA hS (by kernel_rfl) (by kernel_rfl) (by kernel_rfl) (by kernel_rfl) fun w hS => ?_
   obtain ⟨h3032, hF⟩ := chk_some hF
   obtain ⟨x3033, h3034, hF⟩ := ltt_ hF
   obtain ⟨x3035, h3036, hF⟩ := bnd hF
   obtain ⟨cs, hV, hc3037⟩ := el (hS.rd 1 rfl) h3036
   obtain rfl := hV
   obtain ⟨h3038, hF⟩ := chk_some hF
   obtain ⟨x3039, h3040, hF⟩ := ltt_ hF
   obtain ⟨h3041, hF⟩ := chk_some hF
   obtain ⟨x3042, h3043, hF⟩ := ltt_ hF
   obtain ⟨x3044, h3045, hF⟩ := ltt_ hF
   obtain ⟨x3046, h3047, hF⟩ := ltt_ hF
   refine ⟨[(0, .slice (some ⟨g164, 0, none⟩) a1.toNat a1.toNat), (1, .int .i64 x2606), (2, .int .i64 x127), (3, .int .i64 x3033), (4, .pointer (some (ea (some ⟨g164, 0, none⟩) (x3033.toNat * 1)))), (5, .int .i64 x3035), (6, .int .u64 x3014), (7, .int .i64 x2606), (8, .int .i64 x127), (9, .int .i64 x3039), (10, .int .u64 x3042), (11, .int .i64 x3044), (12, .int .i64 x3046), (13, .pointer (some (ea (some ⟨g164, 0, none⟩) (x3033.toNat * 1))))], ?_⟩
   refine dEff [0, 1, 2, 3, 4, 5, 6, 7, 8, 9, 10, 11, 12, 13] [14] (by kernel_rfl) ⟨pu rfl rfl [(7, .slice (some ⟨g164, 0, none⟩) a1.toNat a1.toNat)] (fun ac hA => y_move hA rfl rfl) rfl rfl, pu rfl rfl [(8, .int .i64 x2606)] (fun ac hA => y_move hA rfl rfl) rfl rfl, pu rfl rfl [(6, .int .i64 x127)] (fun ac hA => y_move hA rfl rfl) rfl rfl, pu rfl rfl [(67, .int .i64 x2606), (68, .int .i64 x127)] (fun ac hA => (rv_i h3034 (r_quo rfl (hA.ev rfl) (hA.ev rfl) h3032) : RunV _ _ _ _ (.int .i64 x3033))) rfl rfl, pu rfl rfl [(66, .slice (some ⟨g164, 0, none⟩) a1.toNat a1.toNat), (69, .int .i64 x3033)] (fun ac hA => y_ia Tryd.underlying90 sz2 (hS.rd 1 rfl) h3036 hA rfl rfl rfl) rfl rfl, pu rfl rfl [(70, .pointer (some (ea (some ⟨g164, 0, none⟩) (x3033.toNat * 1))))] (fun ac hA => y_ld Tryd.underlying2 (hc3037 0 _ rfl) hA rfl rfl rfl) rfl rfl, pu rfl rfl [(9, .int .u64 x3014)] (fun ac hA => y_move hA rfl rfl) rfl rfl, pu rfl rfl [(8, .int .i64 x2606)] (fun ac hA => y_move hA rfl rfl) rfl rfl, pu rfl rfl [(6, .int .i64 x127)] (fun ac hA => y_move hA rfl rfl) rfl rfl, pu rfl rfl [(73, .int .i64 x2606), (74, .int .i64 x127)] (fun ac hA => (rv_i h3040 (r_rem rfl (hA.ev rfl) (hA.ev rfl) h3038) : RunV _ _ _ _ (.int .i64 x3039))) rfl rfl, pu rfl rfl [(72, .int .u64 x3014), (75, .int .i64 x3039)] (fun ac hA => (rv_i h3043 (r_shl rfl (hA.ev rfl) (hA.ev rfl) h3041) : RunV _ _ _ _ (.int .u64 x3042))) rfl rfl, pu rfl rfl [(76, .int .u64 x3042)] (fun ac hA => (rv_i h3045 (r_convI Tryd.underlying31 Tryd.underlying2 rfl (hA.ev rfl)) : RunV _ _ _ _ (.int .i64 x3044))) rfl rfl, pu rfl rfl [(71, .int .i64 x3035), (77, .int .i64 x3044)] (fun ac hA => (rv_i h3047 (r_or rfl (hA.ev rfl) (hA.ev rfl)) : RunV _ _ _ _ (.int .i64 x3046))) rfl rfl, pu rfl rfl [(66, .slice (some ⟨g164, 0, none⟩) a1.toNat a1.toNat), (69, .int .i64 x3033)] (fun ac hA => y_ia Tryd.underlying90 sz2 (hS.rd 1 rfl) h3036 hA rfl rfl rfl) rfl rfl, trivial⟩ (by kernel_rfl) (by kernel_rfl) ⟨ef rfl [(78, .int .i64 x3046), (79, .pointer (some (ea (some ⟨g164, 0, none⟩) (x3033.toNat * 1))))] (fun ac hA K hK => ?_) rfl rfl, trivial⟩
   refine z_sto (z' := x3046) (off := 0) (vs := [.int .i64 x3046]) 1 sz2 hA hS rfl (at_some h3036).2.2 (fun c h => by cases h; rfl) (fun  w hS => ?_) rfl rfl rfl rfl rfl rfl
   refine hK _ [] _ rfl ?_
   refine dEnd [] (by kernel_rfl) trivial ⟨by kernel_rfl, by kernel_rfl⟩ [(0, .pointer (some ⟨g0, 0, none⟩)), (1, .int .i64 a1), (5, .int .i64 y107.1), (6, .int .i64 x127), (7, .slice (some ⟨g164, 0, none⟩) a1.toNat a1.toNat), (40, .int .i64 x1502), (41, .int .i64 x2606)] rfl (fun ac hA => ?_)
   replace hS := hS.pk 1
   exact hb3 l2600 (l2605.set x3033.toNat x3046) hF A2601 n2602 c2603 h2604 ac w (hA.sub _ rfl) hS
  replace hF := iff' hb2837 hF
  refine wp_exit ?_
  cases hF
  exact hx2833_0 l2600 l2605 (T2833_ _ rfl) A2601 n2602 c2603 h2604 ac w (hA.sub _ rfl) hS
 refine wp_reg ?_
 refine x_m hA rfl fun ac hA => ?_
 refine x_m hA rfl fun ac hA => ?_
 refine x_v hA (r_leI rfl (hA.ev rfl) (hA.ev rfl)) rfl fun ac hA => ?_
 refine x_m hA rfl fun ac hA => ?_
 refine bcase (b := decide (x127 ≤ 64)) (fun hb3048 => ?_) fun hb3048 => ?_
 ·replace hF := ift hb3048 hF
  refine x_on hb3048 hA ?_ rfl rfl rfl
  refine x_m hA rfl fun ac hA => ?_
  refine x_on hb3048 hA ?_ rfl rfl rfl
  refine x_v hA (r_nilCheck rfl (hA.ev rfl)) rfl fun ac hA => ?_
  refine x_on hb3048 hA ?_ rfl rfl rfl
  refine x_fab fa106_0 hA (fun ac hA => ?_) rfl rfl rfl rfl rfl
  refine x_on hb3048 hA ?_ rfl rfl rfl
  refine x_ld Tryd.underlying24 (hS.cell 0 rfl 0 _ rfl) hA (fun ac hA => ?_) rfl rfl rfl rfl rfl rfl
  refine x_on hb3048 hA ?_ rfl rfl rfl
  refine x_len Tryd.underlying24 (hS.rdl 1 (h126.rdl qz hZ) rfl).2.1 hA (fun ac hA => ?_) rfl rfl rfl rfl rfl
  refine x_on hb3048 hA ?_ rfl rfl rfl
  refine x_m hA rfl fun ac hA => ?_
  refine x_on hb3048 hA ?_ rfl rfl rfl
  refine x_m hA rfl fun ac hA => ?_
  refine x_on hb3048 hA ?_ rfl rfl rfl
  obtain ⟨x3049, h3050, hF⟩ := ltt_ hF
  refine x_v (v := .int .i64 x3049) hA (rv_i h3050 (r_mul rfl (hA.ev rfl) (hA.ev rfl))) rfl fun ac hA => ?_
  refine x_on hb3048 hA ?_ rfl rfl rfl
  obtain ⟨x3051, h3052, hF⟩ := ltt_ hF
  refine x_v (v := .int .i64 x3051) hA (rv_i h3052 (r_add rfl (hA.ev rfl) (hA.ev rfl))) rfl fun ac hA => ?_
  refine x_on hb3048 hA ?_ rfl rfl rfl
  obtain ⟨x3053, h3054, hF⟩ := ltt_ hF
  refine x_v (v := .int .i64 x3053) hA (rv_i h3054 (r_quo rfl (hA.ev rfl) (hA.ev rfl) (by decide))) rfl fun ac hA => ?_
  refine x_on hb3048 hA ?_ rfl rfl rfl
  refine x_v hA (r_eqI rfl (hA.ev rfl) (hA.ev rfl)) rfl fun ac hA => ?_
  refine x_pickt hb3048 hA (fun ac hA => ?_) rfl rfl rfl rfl rfl rfl
  replace hS := SH.pure_ h126 hS
  replace hS := hS.pk 1
  replace hS := obj106_mk (x := y117.2) hS
  obtain ⟨y3055, h3056, hF⟩ := bnd hF
  rcases y3055 with y3055 | y3055
  rotate_left
  ·replace hF := sum_r hF
   refine x_callp (vs := #[.pointer (some ⟨g0, 0, none⟩), .bool ((y117.2.f0.length : Int) == x3053)]) en59 hA (RetS.rf (F_column_Reader_Check (L := L) y117.2 ((y117.2.f0.length : Int) == x3053) g0 h3056 (qz + 0) hZ hS)) (fun w hR => ?_) rfl rfl rfl rfl rfl
   replace hS := hR
   obtain ⟨A3057, n3058, c3059, hS⟩ := obj106_open hS
   replace hS := hS.pk 1
   have hQ0 := SH.unpure hS
   clear hS
   obtain ⟨h3060, hS⟩ := hQ0
   replace hS := SH.pure_ h3060 hS
   replace hS := hS.pk 1
   replace hS := obj106_mk (x := y3055) hS
   cases hF
   exact hQp _ rfl _ _ hA.defers hS
  replace hF := sum_l hF
  refine x_callw (vs := #[.pointer (some ⟨g0, 0, none⟩), .bool ((y117.2.f0.length : Int) == x3053)]) en59 hA (RetS.lf (F_column_Reader_Check (L := L) y117.2 ((y117.2.f0.length : Int) == x3053) g0 h3056 (qz + 0) hZ hS)) (fun v ac w hR hA => ?_) rfl rfl rfl rfl rfl rfl rfl
  obtain ⟨rfl, hS⟩ := hR
  obtain ⟨A3061, n3062, c3063, hS⟩ := obj106_open hS
  replace hS := hS.pk 1
  have hQ0 := SH.unpure hS
  clear hS
  obtain ⟨h3064, hS⟩ := hQ0
  refine wpList_nil ?_
  exact hj1 y3055.f0 hF A3061 n3062 c3063 h3064 ac w (hA.sub _ rfl) hS
 replace hF := iff' hb3048 hF
 refine x_off hb3048 hA (fun ac hA => ?_) rfl rfl rfl rfl rfl
 refine x_off hb3048 hA (fun ac hA => ?_) rfl rfl rfl rfl rfl
 refine x_off hb3048 hA (fun ac hA => ?_) rfl rfl rfl rfl rfl
 refine x_off hb3048 hA (fun ac hA => ?_) rfl rfl rfl rfl rfl
 refine x_off hb3048 hA (fun ac hA => ?_) rfl rfl rfl rfl rfl
 refine x_off hb3048 hA (fun ac hA => ?_) rfl rfl rfl rfl rfl
 refine x_off hb3048 hA (fun ac hA => ?_) rfl rfl rfl rfl rfl
 refine x_off hb3048 hA (fun ac hA => ?_) rfl rfl rfl rfl rfl
 refine x_off hb3048 hA (fun ac hA => ?_) rfl rfl rfl rfl rfl
 refine x_off hb3048 hA (fun ac hA => ?_) rfl rfl rfl rfl rfl
 refine x_off hb3048 hA (fun ac hA => ?_) rfl rfl rfl rfl rfl
 refine x_pickf hb3048 hA (fun ac hA => ?_) rfl rfl rfl rfl rfl rfl
 replace hS := SH.pure_ h126 hS
 replace hS := hS.pk 1
 replace hS := obj106_mk (x := y117.2) hS
 obtain ⟨y3065, h3066, hF⟩ := bnd hF
 rcases y3065 with y3065 | y3065
 rotate_left
 ·replace hF := sum_r hF
  refine x_callp (vs := #[.pointer (some ⟨g0, 0, none⟩), .bool false]) en59 hA (RetS.rf (F_column_Reader_Check (L := L) y117.2 false g0 h3066 (qz + 0) hZ hS)) (fun w hR => ?_) rfl rfl rfl rfl rfl
  replace hS := hR
  obtain ⟨A3067, n3068, c3069, hS⟩ := obj106_open hS
  replace hS := hS.pk 1
  have hQ0 := SH.unpure hS
  clear hS
  obtain ⟨h3070, hS⟩ := hQ0
  replace hS := SH.pure_ h3070 hS
  replace hS := hS.pk 1
  replace hS := obj106_mk (x := y3065) hS
  cases hF
  exact hQp _ rfl _ _ hA.defers hS
 replace hF := sum_l hF
 refine x_callw (vs := #[.pointer (some ⟨g0, 0, none⟩), .bool false]) en59 hA (RetS.lf (F_column_Reader_Check (L := L) y117.2 false g0 h3066 (qz + 0) hZ hS)) (fun v ac w hR hA => ?_) rfl rfl rfl rfl rfl rfl rfl
 obtain ⟨rfl, hS⟩ := hR
 obtain ⟨A3071, n3072, c3073, hS⟩ := obj106_open hS
 replace hS := hS.pk 1
 have hQ0 := SH.unpure hS
 clear hS
 obtain ⟨h3074, hS⟩ := hQ0
 refine wpList_nil ?_
 exact hj1 y3065.f0 hF A3071 n3072 c3073 h3074 ac w (hA.sub _ rfl) hS
theorem F_column_ints {r : World} {L : List HP} {w : World} {Z : Nat → Prop} {wz : World} (a0 : S106) (g0 : Nat) {y : (((List Int) × S106) ⊕ (S106))} (hF : column_ints a0 = some y) (qz : Nat) (hZ : L[qz]? = some (zone Z wz)) (hS : SH r (obj106 Z wz g0 a0 :: L) w) :
  RetS Tryd.prog 78 #[.pointer (some ⟨g0, 0, none⟩)] w badC y (fun y v w' => ∃ (B0 : Option Addr) (m0 : Nat) (d0 : Nat), v = .slice B0 m0 d0 ∧ SH r (own (kI .i64) 2 B0 m0 d0 y.1 :: obj106 Z wz g0 y.2 :: L) w') (fun y w' => SH r (obj106 Z wz g0 y :: L) w') := by
 refine enterS Tryd.func78 rfl Tryd.ntmps78 [(0, .pointer (some ⟨g0, 0, none⟩))] rfl (by simp) ?_
 intro ac hA Qf hQ hQn hQp
 unfold column_ints at hF
 obtain ⟨A101, n102, c103, hS⟩ := obj106_open hS
 replace hS := hS.pk 1
 have hQ0 := SH.unpure hS
 clear hS
 obtain ⟨h104, hS⟩ := hQ0
 refine ws fun K105 hK105 => ?_
 refine x_m hA rfl fun ac hA => ?_
 refine wn (hK105 _ _ ?_)
 refine ws fun K106 hK106 => ?_
 refine x_m hA rfl fun ac hA => ?_
 replace hS := SH.pure_ h104 hS
 replace hS := hS.pk 1
 replace hS := obj106_mk (x := a0) hS
 obtain ⟨y107, h108, hF⟩ := bnd hF
 rcases y107 with y107 | y107
 rotate_left
 ·replace hF := sum_r hF
  refine x_callp (vs := #[.pointer (some ⟨g0, 0, none⟩)]) en76 hA (RetS.rf (F_column_Reader_Byte (L := L) a0 g0 h108 (qz + 0) hZ hS)) (fun w hR => ?_) rfl rfl rfl rfl rfl
  replace hS := hR
  obtain ⟨A109, n110, c111, hS⟩ := obj106_open hS
  replace hS := hS.pk 1
  have hQ0 := SH.unpure hS
  clear hS
  obtain ⟨h112, hS⟩ := hQ0
  replace hS := SH.pure_ h112 hS
  replace hS := hS.pk 1
  replace hS := obj106_mk (x := y107) hS
  cases hF
  exact hQp _ rfl _ _ hA.defers hS
 replace hF := sum_l hF
 refine x_callw (vs := #[.pointer (some ⟨g0, 0, none⟩)]) en76 hA (RetS.lf (F_column_Reader_Byte (L := L) a0 g0 h108 (qz + 0) hZ hS)) (fun v ac w hR hA => ?_) rfl rfl rfl rfl rfl rfl rfl
 obtain ⟨rfl, hS⟩ := hR
 obtain ⟨A113, n114, c115, hS⟩ := obj106_open hS
 replace hS := hS.pk 1
 have hQ0 := SH.unpure hS
 clear hS
 obtain ⟨h116, hS⟩ := hQ0
 refine x_m hA rfl fun ac hA => ?_
 refine wn (hK106 _ _ ?_)
 refine ws fun K117 hK117 => ?_
 refine x_m hA rfl fun ac hA => ?_
 refine x_m hA rfl fun ac hA => ?_
 refine x_v hA (r_leI rfl (hA.ev rfl) (hA.ev rfl)) rfl fun ac hA => ?_
 replace hS := SH.pure_ h116 hS
 replace hS := hS.pk 1
 replace hS := obj106_mk (x := y107.2) hS
 obtain ⟨y118, h119, hF⟩ := bnd hF
 rcases y118 with y118 | y118
 rotate_left
 ·replace hF := sum_r hF
  refine x_callp (vs := #[.pointer (some ⟨g0, 0, none⟩), .bool (decide (y107.1 ≤ 3))]) en59 hA (RetS.rf (F_column_Reader_Check (L := L) y107.2 (decide (y107.1 ≤ 3)) g0 h119 (qz + 0) hZ hS)) (fun w hR => ?_) rfl rfl rfl rfl rfl
  replace hS := hR
  obtain ⟨A120, n121, c122, hS⟩ := obj106_open hS
  replace hS := hS.pk 1
  have hQ0 := SH.unpure hS
  clear hS
  obtain ⟨h123, hS⟩ := hQ0
  replace hS := SH.pure_ h123 hS
  replace hS := hS.pk 1
  replace hS := obj106_mk (x := y118) hS
  cases hF
  exact hQp _ rfl _ _ hA.defers hS
 replace hF := sum_l hF
 refine x_callw (vs := #[.pointer (some ⟨g0, 0, none⟩), .bool (decide (y107.1 ≤ 3))]) en59 hA (RetS.lf (F_column_Reader_Check (L := L) y107.2 (decide (y107.1 ≤ 3)) g0 h119 (qz + 0) hZ hS)) (fun v ac w hR hA => ?_) rfl rfl rfl rfl rfl rfl rfl
 obtain ⟨rfl, hS⟩ := hR
 obtain ⟨A124, n125, c126, hS⟩ := obj106_open hS
 replace hS := hS.pk 1
 have hQ0 := SH.unpure hS
 clear hS
 obtain ⟨h127, hS⟩ := hQ0
 refine wn (hK117 _ _ ?_)
 refine ws fun K128 hK128 => ?_
 refine x_m hA rfl fun ac hA => ?_
 replace hS := SH.pure_ h127 hS
 replace hS := hS.pk 1
 replace hS := obj106_mk (x := y118) hS
 obtain ⟨y129, h130, hF⟩ := bnd hF
 rcases y129 with y129 | y129
 rotate_left
 ·replace hF := sum_r hF
  refine x_callp (vs := #[.pointer (some ⟨g0, 0, none⟩), .int .u64 4096]) en58 hA (RetS.rf (F_column_Reader_Uint (L := L) y118 4096 g0 h130 (qz + 0) hZ hS)) (fun w hR => ?_) rfl rfl rfl rfl rfl
  replace hS := hR
  obtain ⟨A131, n132, c133, hS⟩ := obj106_open hS
  replace hS := hS.pk 1
  have hQ0 := SH.unpure hS
  clear hS
  obtain ⟨h134, hS⟩ := hQ0
  replace hS := SH.pure_ h134 hS
  replace hS := hS.pk 1
  replace hS := obj106_mk (x := y129) hS
  cases hF
  exact hQp _ rfl _ _ hA.defers hS
 replace hF := sum_l hF
 refine x_callw (vs := #[.pointer (some ⟨g0, 0, none⟩), .int .u64 4096]) en58 hA (RetS.lf (F_column_Reader_Uint (L := L) y118 4096 g0 h130 (qz + 0) hZ hS)) (fun v ac w hR hA => ?_) rfl rfl rfl rfl rfl rfl rfl
 obtain ⟨rfl, hS⟩ := hR
 obtain ⟨A135, n136, c137, hS⟩ := obj106_open hS
 replace hS := hS.pk 1
 have hQ0 := SH.unpure hS
 clear hS
 obtain ⟨h138, hS⟩ := hQ0
 obtain ⟨x139, h140, hF⟩ := ltt_ hF
 refine x_v (v := .int .i64 x139) hA (rv_i h140 (r_convI Tryd.underlying31 Tryd.underlying3 rfl (hA.ev rfl))) rfl fun ac hA => ?_
 refine x_m hA rfl fun ac hA => ?_
 refine wn (hK128 _ _ ?_)
 refine ws fun K141 hK141 => ?_
 refine x_m hA rfl fun ac hA => ?_
 refine wn (hK141 _ _ ?_)
 refine wp_seq_k fun K142 hK142 => ?_
 refine ws fun K4559 hK4559 => ?_
 refine x_m hA rfl fun ac hA => ?_
 refine wn (hK4559 _ _ ?_)
 refine wp_block_k fun Kx4560 hKx4560 => ?_
 have hb1 : ∀ (l6763 : (List Int)) (l6768 : (List Int)), column_ints_b1 l6763 l6768 = some y → ∀ (A6764 : Option Addr) (n6765 : Nat) (c6766 : Nat) (A6769 : Option Addr) (n6770 : Nat) (c6771 : Nat) (h6767 : Imm Z wz (kI .u8) A6764 n6765 c6766 l6763) (ac : Act) (w : World), FR 70 [] ac [(0, .pointer (some ⟨g0, 0, none⟩)), (5, .slice A6769 n6770 c6771)] → SH r (blk g0 106 [.slice A6764 n6765 c6766] :: own (kI .i64) 2 A6769 n6770 c6771 l6768 :: L) w → Kx4560 ac w := by
  intro l6763 l6768 hF A6764 n6765 c6766 A6769 n6770 c6771 h6767 ac w hA hS
  unfold column_ints_b1 at hF
  refine hKx4560 _ _ ?_
  refine hK142 _ _ ?_
  refine ws fun K6772 hK6772 => ?_
  refine x_m hA rfl fun ac hA => ?_
  refine x_m hA rfl fun ac hA => ?_
  refine wn (hK6772 _ _ ?_)
  refine wp_ret ?_
  replace hS := SH.pure_ h6767 hS
  replace hS := hS.pk 1
  replace hS := obj106_mk (x := (⟨l6763⟩ : S106)) hS
  replace hS := hS.pk 1
  cases hF
  refine hQ _ rfl _ _ ?_
  refine lv Tryd.results78 hA rfl ?_
  exact ⟨A6769, n6770, c6771, rfl, hS⟩
 refine ws fun K6773 hK6773 => ?_
 refine x_v hA (r_eqI rfl (hA.ev rfl) (hA.ev rfl)) rfl fun ac hA => ?_
 refine x_m hA rfl fun ac hA => ?_
 refine wn (hK6773 _ _ ?_)
 refine c_if hA rfl (fun hb6774 => ?_) fun hb6774 => ?_
 ·replace hF := ift hb6774 hF
  refine wp_reg ?_
  refine x_m hA rfl fun ac hA => ?_
  refine x_m hA rfl fun ac hA => ?_
  refine x_v hA (r_makeFunc rfl (mapev (vals := #[.pointer (some ⟨g0, 0, none⟩)]) hA rfl) (mapev (vals := #[]) hA rfl)) rfl fun ac hA => ?_
  replace hS := SH.pure_ h138 hS
  replace hS := hS.pk 1
  replace hS := obj106_mk (x := y129.2) hS
  obtain ⟨y6775, h6776, hF⟩ := bnd hF
  rcases y6775 with y6775 | y6775
  rotate_left
  ·replace hF := sum_r hF
   refine x_callp (vs := #[.int .i64 x139, .func (.func 60) #[.pointer (some ⟨g0, 0, none⟩)] #[]]) en92 hA (RetS.rf (F_column_list_int64 (L := L) x139 y129.2 g0 h6776 (qz + 0) hZ hS)) (fun w hR => ?_) rfl rfl rfl rfl rfl
   replace hS := hR
   obtain ⟨A6777, n6778, c6779, hS⟩ := obj106_open hS
   replace hS := hS.pk 1
   have hQ0 := SH.unpure hS
   clear hS
   obtain ⟨h6780, hS⟩ := hQ0
   replace hS := SH.pure_ h6780 hS
   replace hS := hS.pk 1
   replace hS := obj106_mk (x := y6775) hS
   cases hF
   exact hQp _ rfl _ _ hA.defers hS
  replace hF := sum_l hF
  refine x_callw (vs := #[.int .i64 x139, .func (.func 60) #[.pointer (some ⟨g0, 0, none⟩)] #[]]) en92 hA (RetS.lf (F_column_list_int64 (L := L) x139 y129.2 g0 h6776 (qz + 0) hZ hS)) (fun v ac w hR hA => ?_) rfl rfl rfl rfl rfl rfl rfl
  obtain ⟨B6781, m6782, d6783, rfl, hS⟩ := hR
  replace hS := hS.pk 1
  obtain ⟨A6784, n6785, c6786, hS⟩ := obj106_open hS
  replace hS := hS.pk 1
  have hQ0 := SH.unpure hS
  clear hS
  obtain ⟨h6787, hS⟩ := hQ0
  refine x_m hA rfl fun ac hA => ?_
  refine wpList_nil ?_
  exact hb1 y6775.2.f0 y6775.1 hF A6784 n6785 c6786 B6781 m6782 d6783 h6787 ac w (hA.sub _ rfl) hS
 replace hF := iff' hb6774 hF
 refine ws fun K6788 hK6788 => ?_
 refine x_v hA (r_eqI rfl (hA.ev rfl) (hA.ev rfl)) rfl fun ac hA => ?_
 refine x_m hA rfl fun ac hA => ?_
 refine wn (hK6788 _ _ ?_)
 refine c_if hA rfl (fun hb6789 => ?_) fun hb6789 => ?_
 ·replace hF := ift hb6789 hF
  refine ws fun K6790 hK6790 => ?_
  refine x_m hA rfl fun ac hA => ?_
  refine wn (hK6790 _ _ ?_)
  refine ws fun K6791 hK6791 => ?_
  refine x_m hA rfl fun ac hA => ?_
  refine x_m hA rfl fun ac hA => ?_
  refine wn (hK6791 _ _ ?_)
  refine wp_block_k fun Kx6792 hKx6792 => ?_
  have hb2 : ∀ (l6919 : (List Int)) (l6924 : (List Int)), column_ints_b2 l6919 l6924 = some y → ∀ (A6920 : Option Addr) (n6921 : Nat) (c6922 : Nat) (A6925 : Option Addr) (n6926 : Nat) (c6927 : Nat) (h6923 : Imm Z wz (kI .u8) A6920 n6921 c6922 l6919) (ac : Act) (w : World), FR 70 [] ac [(0, .pointer (some ⟨g0, 0, none⟩)), (5, .slice A6925 n6926 c6927)] → SH r (blk g0 106 [.slice A6920 n6921 c6922] :: own (kI .i64) 2 A6925 n6926 c6927 l6924 :: L) w → Kx6792 ac w := by
   intro l6919 l6924 hF A6920 n6921 c6922 A6925 n6926 c6927 h6923 ac w hA hS
   unfold column_ints_b2 at hF
   refine hKx6792 _ _ ?_
   exact hb1 l6919 l6924 hF A6920 n6921 c6922 A6925 n6926 c6927 h6923 ac w (hA.sub _ rfl) hS
  obtain ⟨t7027, hl7027, hF⟩ := bnd hF
  have hR7027 := hF
  have hx7027_1 : ∀ (l7019 : (List Int)) (l7024 : (List Int)), (.inl (l7019, l7024)) = t7027 → ∀ (A7020 : Option Addr) (n7021 : Nat) (c7022 : Nat) (A7025 : Option Addr) (n7026 : Nat) (c7027 : Nat) (h7023 : Imm Z wz (kI .u8) A7020 n7021 c7022 l7019) (ac : Act) (w : World), FR 70 [] ac [(0, .pointer (some ⟨g0, 0, none⟩)), (5, .slice A7025 n7026 c7027)] → SH r (blk g0 106 [.slice A7020 n7021 c7022] :: own (kI .i64) 2 A7025 n7026 c7027 l7024 :: L) w → Kx6792 ac w := by
   intro l7019 l7024 ht A7020 n7021 c7022 A7025 n7026 c7027 h7023 ac w hA hS
   subst ht
   replace hF : column_ints_x1_1 l7019 l7024 = some y := hF
   unfold column_ints_x1_1 at hF
   exact hb2 l7019 l7024 hF A7020 n7021 c7022 A7025 n7026 c7027 h7023 ac w (hA.sub _ rfl) hS
  replace hS := SH.nil_own (d := (kI .i64)) (e := 2) hS
  replace hS := hS.pk 1
  refine wp_loop_fn hl7027 (fun s ac w => ∃ (A6973 : Option Addr) (n6974 : Nat) (c6975 : Nat) (A6978 : Option Addr) (n6979 : Nat) (c6980 : Nat), Imm Z wz (kI .u8) A6973 n6974 c6975 s.1 ∧ FR 70 [] ac [(0, .pointer (some ⟨g0, 0, none⟩)), (5, .slice A6978 n6979 c6980), (6, .int .i64 s.2.2.1), (26, .int .i64 x139), (27, .int .i64 s.2.2.2)] ∧ SH r (blk g0 106 [.slice A6973 n6974 c6975] :: own (kI .i64) 2 A6978 n6979 c6980 s.2.1 :: L) w) ⟨A135, n136, c137, none, 0, 0, h138, hA.sub _ rfl, hS⟩ ?_
  intro N7027 s7027 o7027 hF N7027_ T7027_ ac w hLab
  obtain ⟨l6972, l6977, x6981, x6982⟩ := s7027
  replace hF : column_ints_l1 x139 l6972 l6977 x6981 x6982 = some o7027 := hF
  unfold column_ints_l1 at hF
  try dsimp only at hLab
  obtain ⟨A6973, n6974, c6975, A6978, n6979, c6980, h6976, hA, hS⟩ := hLab
  refine ws fun K7029 hK7029 => ?_
  refine x_v hA (r_ltI rfl (hA.ev rfl) (hA.ev rfl)) rfl fun ac hA => ?_
  refine wn (hK7029 _ _ ?_)
  refine wp_seq_k fun K7030 hK7030 => ?_
  refine c_if hA rfl (fun hb7031 => ?_) fun hb7031 => ?_
  ·replace hF := ift hb7031 hF
   refine wp_skip ?_
   refine hK7030 _ _ ?_
   refine wp_seq_k fun K7032 hK7032 => ?_
   refine wp_block_k fun Kx7033 hKx7033 => ?_
   refine ws fun K7034 hK7034 => ?_
   refine x_m hA rfl fun ac hA => ?_
   refine x_m hA rfl fun ac hA => ?_
   replace hS := SH.pure_ h6976 hS
   replace hS := hS.pk 1
   replace hS := obj106_mk (x := (⟨l6972⟩ : S106)) hS
   obtain ⟨y7035, h7036, hF⟩ := bnd hF
   rcases y7035 with y7035 | y7035
   rotate_left
   ·replace hF := sum_r hF
    refine x_callp (vs := #[.pointer (some ⟨g0, 0, none⟩)]) en60 hA (RetS.rf (F_column_Reader_Int (L := own (kI .i64) 2 A6978 n6979 c6980 l6977 :: L) (⟨l6972⟩ : S106) g0 h7036 (qz + 1) hZ hS)) (fun w hR => ?_) rfl rfl rfl rfl rfl
    replace hS := hR
    obtain ⟨A7037, n7038, c7039, hS⟩ := obj106_open hS
    replace hS := hS.pk 1
    have hQ0 := SH.unpure hS
    clear hS
    obtain ⟨h7040, hS⟩ := hQ0
    replace hS := SH.pure_ h7040 hS
    replace hS := hS.pk 1
    replace hS := obj106_mk (x := y7035) hS
    replace hS := hS.drop 1
    cases hF
    have ht := T7027_ _ rfl
    subst ht
    replace hF := hR7027
    replace hF : some (.inr y7035) = some y := hF
    cases hF
    exact hQp _ rfl _ _ hA.defers hS
   replace hF := sum_l hF
   refine x_callw (vs := #[.pointer (some ⟨g0, 0, none⟩)]) en60 hA (RetS.lf (F_column_Reader_Int (L := own (kI .i64) 2 A6978 n6979 c6980 l6977 :: L) (⟨l6972⟩ : S106) g0 h7036 (qz + 1) hZ hS)) (fun v ac w hR hA => ?_) rfl rfl rfl rfl rfl rfl rfl
   obtain ⟨rfl, hS⟩ := hR
   obtain ⟨A7041, n7042, c7043, hS⟩ := obj106_open hS
   replace hS := hS.pk 1
   have hQ0 := SH.unpure hS
   clear hS
   obtain ⟨h7044, hS⟩ := hQ0
   obtain ⟨x7045, h7046, hF⟩ := ltt_ hF
   refine x_v (v := .int .i64 x7045) hA (rv_i h7046 (r_add rfl (hA.ev rfl) (hA.ev rfl))) rfl fun ac hA => ?_
   refine x_m hA rfl fun ac hA => ?_
   refine wn (hK7034 _ _ ?_)
   refine wp_reg ?_
   refine x_m hA rfl fun ac hA => ?_
   refine x_m hA rfl fun ac hA => ?_
   refine x_bsl (d := (kI .i64)) (e := 2) (ps := #[(0, .int .i64 x7045)]) (cells := [.int .i64 x7045]) (xs := [x7045]) (fun w => by kernel_rfl) rfl ⟨[.int .i64 x7045], _, rfl, rfl, rfl⟩ hA hS (fun g7047 ac w hS hA => ?_) rfl rfl rfl rfl rfl rfl
   obtain ⟨h7048, hF⟩ := chk_some hF
   have hr := hS.rd 0 rfl
   refine x_app 2 inf2 Tryd.underlying90 hA hS hr.1 hr.2.1 h7048 rfl (fun A7049 n7050 c7051 ac w hS hA => ?_) rfl rfl rfl rfl rfl rfl rfl rfl rfl
   refine x_m hA rfl fun ac hA => ?_
   refine wpList_nil ?_
   refine hKx7033 _ _ ?_
   refine hK7032 _ _ ?_
   refine wp_reg ?_
   obtain ⟨x7052, h7053, hF⟩ := ltt_ hF
   refine x_v (v := .int .i64 x7052) hA (rv_i h7053 (r_add rfl (hA.ev rfl) (hA.ev rfl))) rfl fun ac hA => ?_
   refine x_m hA rfl fun ac hA => ?_
   refine wpList_nil ?_
   replace hS := hS.drop 1
   replace hS := hS.pk 1
   cases hF
   exact ⟨_, N7027_ _ rfl, A7041, n7042, c7043, A7049, n7050, c7051, h7044, hA.sub _ rfl, hS⟩
  replace hF := iff' hb7031 hF
  refine wp_exit ?_
  cases hF
  exact hx7027_1 l6972 l6977 (T7027_ _ rfl) A6973 n6974 c6975 A6978 n6979 c6980 h6976 ac w (hA.sub _ rfl) hS
 replace hF := iff' hb6789 hF
 refine ws fun K7054 hK7054 => ?_
 refine x_v hA (r_eqI rfl (hA.ev rfl) (hA.ev rfl)) rfl fun ac hA => ?_
 refine x_m hA rfl fun ac hA => ?_
 refine wn (hK7054 _ _ ?_)
 refine c_if hA rfl (fun hb7055 => ?_) fun hb7055 => ?_
 ·replace hF := ift hb7055 hF
  refine wp_block_k fun Kx7056 hKx7056 => ?_
  have hb3 : ∀ (l8002 : (List Int)) (l8007 : (List Int)), column_ints_b3 l8002 l8007 = some y → ∀ (A8003 : Option Addr) (n8004 : Nat) (c8005 : Nat) (A8008 : Option Addr) (n8009 : Nat) (c8010 : Nat) (h8006 : Imm Z wz (kI .u8) A8003 n8004 c8005 l8002) (ac : Act) (w : World), FR 70 [] ac [(0, .pointer (some ⟨g0, 0, none⟩)), (5, .slice A8008 n8009 c8010)] → SH r (blk g0 106 [.slice A8003 n8004 c8005] :: own (kI .i64) 2 A8008 n8009 c8010 l8007 :: L) w → Kx7056 ac w := by
   intro l8002 l8007 hF A8003 n8004 c8005 A8008 n8009 c8010 h8006 ac w hA hS
   unfold column_ints_b3 at hF
   refine hKx7056 _ _ ?_
   exact hb1 l8002 l8007 hF A8003 n8004 c8005 A8008 n8009 c8010 h8006 ac w (hA.sub _ rfl) hS
  obtain ⟨t8654, hl8654, hF⟩ := bnd hF
  have hR8654 := hF
  have hx8654_3 : ∀ (l8646 : (List Int)) (l8651 : (List Int)), (.inl (l8646, l8651)) = t8654 → ∀ (A8647 : Option Addr) (n8648 : Nat) (c8649 : Nat) (A8652 : Option Addr) (n8653 : Nat) (c8654 : Nat) (h8650 : Imm Z wz (kI .u8) A8647 n8648 c8649 l8646) (ac : Act) (w : World), FR 70 [] ac [(0, .pointer (some ⟨g0, 0, none⟩)), (5, .slice A8652 n8653 c8654)] → SH r (blk g0 106 [.slice A8647 n8648 c8649] :: own (kI .i64) 2 A8652 n8653 c8654 l8651 :: L) w → Kx7056 ac w := by
   intro l8646 l8651 ht A8647 n8648 c8649 A8652 n8653 c8654 h8650 ac w hA hS
   subst ht
   replace hF : column_ints_x2_3 l8646 l8651 = some y := hF
   unfold column_ints_x2_3 at hF
   exact hb3 l8646 l8651 hF A8647 n8648 c8649 A8652 n8653 c8654 h8650 ac w (hA.sub _ rfl) hS
  replace hS := SH.nil_own (d := (kI .i64)) (e := 2) hS
  replace hS := hS.pk 1
  refine wp_loop_fn hl8654 (fun s ac w => ∃ (A8329 : Option Addr) (n8330 : Nat) (c8331 : Nat) (A8334 : Option Addr) (n8335 : Nat) (c8336 : Nat), Imm Z wz (kI .u8) A8329 n8330 c8331 s.1 ∧ FR 70 [] ac [(0, .pointer (some ⟨g0, 0, none⟩)), (4, .int .i64 x139), (5, .slice A8334 n8335 c8336)] ∧ SH r (blk g0 106 [.slice A8329 n8330 c8331] :: own (kI .i64) 2 A8334 n8335 c8336 s.2 :: L) w) ⟨A135, n136, c137, none, 0, 0, h138, hA.sub _ rfl, hS⟩ ?_
  intro N8654 s8654 o8654 hF N8654_ T8654_ ac w hLab
  obtain ⟨l8328, l8333⟩ := s8654
  replace hF : column_ints_l2 x139 l8328 l8333 = some o8654 := hF
  unfold column_ints_l2 at hF
  try dsimp only at hLab
  obtain ⟨A8329, n8330, c8331, A8334, n8335, c8336, h8332, hA, hS⟩ := hLab
  refine wp_seq_k fun K8656 hK8656 => ?_
  refine ws fun K8657 hK8657 => ?_
  refine x_m hA rfl fun ac hA => ?_
  refine x_len Tryd.underlying90 (hS.rd 1 rfl).2.1 hA (fun ac hA => ?_) rfl rfl rfl rfl rfl
  refine x_m hA rfl fun ac hA => ?_
  refine x_v hA (r_ltI rfl (hA.ev rfl) (hA.ev rfl)) rfl fun ac hA => ?_
  refine wn (hK8657 _ _ ?_)
  refine c_if hA rfl (fun hb8658 => ?_) fun hb8658 => ?_
  ·replace hF := ift hb8658 hF
   refine wp_skip ?_
   refine hK8656 _ _ ?_
   refine wp_block_k fun Kx8659 hKx8659 => ?_
   refine ws fun K8808 hK8808 => ?_
   refine x_m hA rfl fun ac hA => ?_
   replace hS := SH.pure_ h8332 hS
   replace hS := hS.pk 1
   replace hS := obj106_mk (x := (⟨l8328⟩ : S106)) hS
   obtain ⟨y8809, h8810, hF⟩ := bnd hF
   rcases y8809 with y8809 | y8809
   rotate_left
   ·replace hF := sum_r hF
    refine x_callp (vs := #[.pointer (some ⟨g0, 0, none⟩)]) en60 hA (RetS.rf (F_column_Reader_Int (L := own (kI .i64) 2 A8334 n8335 c8336 l8333 :: L) (⟨l8328⟩ : S106) g0 h8810 (qz + 1) hZ hS)) (fun w hR => ?_) rfl rfl rfl rfl rfl
    replace hS := hR
    obtain ⟨A8811, n8812, c8813, hS⟩ := obj106_open hS
    replace hS := hS.pk 1
    have hQ0 := SH.unpure hS
    clear hS
    obtain ⟨h8814, hS⟩ := hQ0
    replace hS := SH.pure_ h8814 hS
    replace hS := hS.pk 1
    replace hS := obj106_mk (x := y8809) hS
    replace hS := hS.drop 1
    cases hF
    have ht := T8654_ _ rfl
    subst ht
    replace hF := hR8654
    replace hF : some (.inr y8809) = some y := hF
    cases hF
    exact hQp _ rfl _ _ hA.defers hS
   replace hF := sum_l hF
   refine x_callw (vs := #[.pointer (some ⟨g0, 0, none⟩)]) en60 hA (RetS.lf (F_column_Reader_Int (L := own (kI .i64) 2 A8334 n8335 c8336 l8333 :: L) (⟨l8328⟩ : S106) g0 h8810 (qz + 1) hZ hS)) (fun v ac w hR hA => ?_) rfl rfl rfl rfl rfl rfl rfl
   obtain ⟨rfl, hS⟩ := hR
   obtain ⟨A8815, n8816, c8817, hS⟩ := obj106_open hS
   replace hS := hS.pk 1
   have hQ0 := SH.unpure hS
   clear hS
   obtain ⟨h8818, hS⟩ := hQ0
   refine x_m hA rfl fun ac hA => ?_
   refine wn (hK8808 _ _ ?_)
   refine ws fun K8819 hK8819 => ?_
   refine x_m hA rfl fun ac hA => ?_
   refine x_m hA rfl fun ac hA => ?_
   refine x_m hA rfl fun ac hA => ?_
   refine x_len Tryd.underlying90 (hS.rd 1 rfl).2.1 hA (fun ac hA => ?_) rfl rfl rfl rfl rfl
   obtain ⟨x8820, h8821, hF⟩ := ltt_ hF
   refine x_v (v := .int .i64 x8820) hA (rv_i h8821 (r_sub rfl (hA.ev rfl) (hA.ev rfl))) rfl fun ac hA => ?_
   obtain ⟨x8822, h8823, hF⟩ := ltt_ hF
   refine x_v (v := .int .i64 x8822) hA (rv_i h8823 (r_sub rfl (hA.ev rfl) (hA.ev rfl))) rfl fun ac hA => ?_
   obtain ⟨x8824, h8825, hF⟩ := ltt_ hF
   refine x_v (v := .int .u64 x8824) hA (rv_i h8825 (r_convI Tryd.underlying3 Tryd.underlying31 rfl (hA.ev rfl))) rfl fun ac hA => ?_
   replace hS := SH.pure_ h8818 hS
   replace hS := hS.pk 1
   replace hS := obj106_mk (x := y8809.2) hS
   obtain ⟨y8826, h8827, hF⟩ := bnd hF
   rcases y8826 with y8826 | y8826
   rotate_left
   ·replace hF := sum_r hF
    refine x_callp (vs := #[.pointer (some ⟨g0, 0, none⟩), .int .u64 x8824]) en58 hA (RetS.rf (F_column_Reader_Uint (L := own (kI .i64) 2 A8334 n8335 c8336 l8333 :: L) y8809.2 x8824 g0 h8827 (qz + 1) hZ hS)) (fun w hR => ?_) rfl rfl rfl rfl rfl
    replace hS := hR
    obtain ⟨A8828, n8829, c8830, hS⟩ := obj106_open hS
    replace hS := hS.pk 1
    have hQ0 := SH.unpure hS
    clear hS
    obtain ⟨h8831, hS⟩ := hQ0
    replace hS := SH.pure_ h8831 hS
    replace hS := hS.pk 1
    replace hS := obj106_mk (x := y8826) hS
    replace hS := hS.drop 1
    cases hF
    have ht := T8654_ _ rfl
    subst ht
    replace hF := hR8654
    replace hF : some (.inr y8826) = some y := hF
    cases hF
    exact hQp _ rfl _ _ hA.defers hS
   replace hF := sum_l hF
   refine x_callw (vs := #[.pointer (some ⟨g0, 0, none⟩), .int .u64 x8824]) en58 hA (RetS.lf (F_column_Reader_Uint (L := own (kI .i64) 2 A8334 n8335 c8336 l8333 :: L) y8809.2 x8824 g0 h8827 (qz + 1) hZ hS)) (fun v ac w hR hA => ?_) rfl rfl rfl rfl rfl rfl rfl
   obtain ⟨rfl, hS⟩ := hR
   obtain ⟨A8832, n8833, c8834, hS⟩ := obj106_open hS
   replace hS := hS.pk 1
   have hQ0 := SH.unpure hS
   clear hS
   obtain ⟨h8835, hS⟩ := hQ0
   obtain ⟨x8836, h8837, hF⟩ := ltt_ hF
   refine x_v (v := .int .u64 x8836) hA (rv_i h8837 (r_add rfl (hA.ev rfl) (hA.ev rfl))) rfl fun ac hA => ?_
   refine x_m hA rfl fun ac hA => ?_
   refine wn (hK8819 _ _ ?_)
   refine wp_block_k fun Kx8838 hKx8838 => ?_
   have hb4 : ∀ (l8895 : (List Int)), column_ints_b4 y8826 l8895 = some o8654 → ∀ (A8896 : Option Addr) (n8897 : Nat) (c8898 : Nat) (ac : Act) (w : World), FR 70 [] ac [(0, .pointer (some ⟨g0, 0, none⟩)), (4, .int .i64 x139), (5, .slice A8896 n8897 c8898)] → SH r (blk g0 106 [.slice A8832 n8833 c8834] :: own (kI .i64) 2 A8896 n8897 c8898 l8895 :: L) w → Kx8838 ac w := by
    intro l8895 hF A8896 n8897 c8898 ac w hA hS
    unfold column_ints_b4 at hF
    refine hKx8838 _ _ ?_
    refine hKx8659 _ _ ?_
    cases hF
    exact ⟨_, N8654_ _ rfl, A8832, n8833, c8834, A8896, n8897, c8898, h8835, hA.sub _ rfl, hS⟩
   obtain ⟨t8941, hl8941, hF⟩ := bnd hF
   have hx8941_5 : ∀ (l8938 : (List Int)), (l8938) = t8941 → ∀ (A8939 : Option Addr) (n8940 : Nat) (c8941 : Nat) (ac : Act) (w : World), FR 70 [] ac [(0, .pointer (some ⟨g0, 0, none⟩)), (4, .int .i64 x139), (5, .slice A8939 n8940 c8941)] → SH r (blk g0 106 [.slice A8832 n8833 c8834] :: own (kI .i64) 2 A8939 n8940 c8941 l8938 :: L) w → Kx8838 ac w := by
    intro l8938 ht A8939 n8940 c8941 ac w hA hS
    subst ht
    replace hF : column_ints_x3_5 y8826 l8938 = some o8654 := hF
    unfold column_ints_x3_5 at hF
    exact hb4 l8938 hF A8939 n8940 c8941 ac w (hA.sub _ rfl) hS
   refine wp_loop_fn hl8941 (fun s ac w => ∃ (A8917 : Option Addr) (n8918 : Nat) (c8919 : Nat), FR 70 [] ac [(0, .pointer (some ⟨g0, 0, none⟩)), (4, .int .i64 x139), (5, .slice A8917 n8918 c8919), (7, .int .i64 y8809.1), (54, .int .u64 x8836), (55, .int .u64 s.2)] ∧ SH r (blk g0 106 [.slice A8832 n8833 c8834] :: own (kI .i64) 2 A8917 n8918 c8919 s.1 :: L) w) ⟨A8334, n8335, c8336, hA.sub _ rfl, hS⟩ ?_
   intro N8941 s8941 o8941 hF N8941_ T8941_ ac w hLab
   obtain ⟨l8916, x8920⟩ := s8941
   replace hF : column_ints_l3 y8809 x8836 l8916 x8920 = some o8941 := hF
   unfold column_ints_l3 at hF
   try dsimp only at hLab
   obtain ⟨A8917, n8918, c8919, hA, hS⟩ := hLab
   refine ws fun K8943 hK8943 => ?_
   refine x_v hA (r_ltI rfl (hA.ev rfl) (hA.ev rfl)) rfl fun ac hA => ?_
   refine wn (hK8943 _ _ ?_)
   refine wp_seq_k fun K8944 hK8944 => ?_
   refine c_if hA rfl (fun hb8945 => ?_) fun hb8945 => ?_
   ·replace hF := ift hb8945 hF
    refine wp_skip ?_
    refine hK8944 _ _ ?_
    refine wp_seq_k fun K8946 hK8946 => ?_
    refine wp_block_k fun Kx8947 hKx8947 => ?_
    refine wp_reg ?_
    refine x_m hA rfl fun ac hA => ?_
    refine x_m hA rfl fun ac hA => ?_
    refine x_bsl (d := (kI .i64)) (e := 2) (ps := #[(0, .int .i64 y8809.1)]) (cells := [.int .i64 y8809.1]) (xs := [y8809.1]) (fun w => by kernel_rfl) rfl ⟨[.int .i64 y8809.1], _, rfl, rfl, rfl⟩ hA hS (fun g8948 ac w hS hA => ?_) rfl rfl rfl rfl rfl rfl
    obtain ⟨h8949, hF⟩ := chk_some hF
    have hr := hS.rd 0 rfl
    refine x_app 2 inf2 Tryd.underlying90 hA hS hr.1 hr.2.1 h8949 rfl (fun A8950 n8951 c8952 ac w hS hA => ?_) rfl rfl rfl rfl rfl rfl rfl rfl rfl
    refine x_m hA rfl fun ac hA => ?_
    refine wpList_nil ?_
    refine hKx8947 _ _ ?_
    refine hK8946 _ _ ?_
    refine wp_reg ?_
    obtain ⟨x8953, h8954, hF⟩ := ltt_ hF
    refine x_v (v := .int .u64 x8953) hA (rv_i h8954 (r_add rfl (hA.ev rfl) (hA.ev rfl))) rfl fun ac hA => ?_
    refine x_m hA rfl fun ac hA => ?_
    refine wpList_nil ?_
    replace hS := hS.drop 1
    replace hS := hS.pk 1
    cases hF
    exact ⟨_, N8941_ _ rfl, A8950, n8951, c8952, hA.sub _ rfl, hS⟩
   replace hF := iff' hb8945 hF
   refine wp_exit ?_
   cases hF
   exact hx8941_5 l8916 (T8941_ _ rfl) A8917 n8918 c8919 ac w (hA.sub _ rfl) hS
  replace hF := iff' hb8658 hF
  refine wp_exit ?_
  cases hF
  exact hx8654_3 l8328 l8333 (T8654_ _ rfl) A8329 n8330 c8331 A8334 n8335 c8336 h8332 ac w (hA.sub _ rfl) hS
 replace hF := iff' hb7055 hF
 refine ws fun K8955 hK8955 => ?_
 refine x_v hA (r_eqI rfl (hA.ev rfl) (hA.ev rfl)) rfl fun ac hA => ?_
 refine x_m hA rfl fun ac hA => ?_
 refine wn (hK8955 _ _ ?_)
 refine c_if hA rfl (fun hb8956 => ?_) fun hb8956 => ?_
 ·replace hF := ift hb8956 hF
  refine ws fun K8957 hK8957 => ?_
  refine x_m hA rfl fun ac hA => ?_
  refine x_v hA (r_gtI rfl (hA.ev rfl) (hA.ev rfl)) rfl fun ac hA => ?_
  refine wn (hK8957 _ _ ?_)
  refine c_if hA rfl (fun hb8958 => ?_) fun hb8958 => ?_
  ·replace hF := ift hb8958 hF
   refine wp_reg ?_
   refine x_m hA rfl fun ac hA => ?_
   refine x_m hA rfl fun ac hA => ?_
   replace hS := SH.pure_ h138 hS
   replace hS := hS.pk 1
   replace hS := obj106_mk (x := y129.2) hS
   obtain ⟨y8959, h8960, hF⟩ := bnd hF
   rcases y8959 with y8959 | y8959
   rotate_left
   ·replace hF := sum_r hF
    refine x_callp (vs := #[.pointer (some ⟨g0, 0, none⟩), .int .i64 x139]) en93 hA (RetS.rf (F_column_unpack (L := L) y129.2 x139 g0 h8960 (qz + 0) hZ hS)) (fun w hR => ?_) rfl rfl rfl rfl rfl
    replace hS := hR
    obtain ⟨A8961, n8962, c8963, hS⟩ := obj106_open hS
    replace hS := hS.pk 1
    have hQ0 := SH.unpure hS
    clear hS
    obtain ⟨h8964, hS⟩ := hQ0
    replace hS := SH.pure_ h8964 hS
    replace hS := hS.pk 1
    replace hS := obj106_mk (x := y8959) hS
    cases hF
    exact hQp _ rfl _ _ hA.defers hS
   replace hF := sum_l hF
   refine x_callw (vs := #[.pointer (some ⟨g0, 0, none⟩), .int .i64 x139]) en93 hA (RetS.lf (F_column_unpack (L := L) y129.2 x139 g0 h8960 (qz + 0) hZ hS)) (fun v ac w hR hA => ?_) rfl rfl rfl rfl rfl rfl rfl
   obtain ⟨B8965, m8966, d8967, rfl, hS⟩ := hR
   replace hS := hS.pk 1
   obtain ⟨A8968, n8969, c8970, hS⟩ := obj106_open hS
   replace hS := hS.pk 1
   have hQ0 := SH.unpure hS
   clear hS
   obtain ⟨h8971, hS⟩ := hQ0
   refine x_m hA rfl fun ac hA => ?_
   refine wpList_nil ?_
   exact hb1 y8959.2.f0 y8959.1 hF A8968 n8969 c8970 B8965 m8966 d8967 h8971 ac w (hA.sub _ rfl) hS
  replace hF := iff' hb8958 hF
  refine wp_skip ?_
  replace hS := SH.nil_own (d := (kI .i64)) (e := 2) hS
  replace hS := hS.pk 1
  exact hb1 y129.2.f0 [] hF A135 n136 c137 none 0 0 h138 ac w (hA.sub _ rfl) hS
 replace hF := iff' hb8956 hF
 refine wp_skip ?_
 replace hS := SH.nil_own (d := (kI .i64)) (e := 2) hS
 replace hS := hS.pk 1
 exact hb1 y129.2.f0 [] hF A135 n136 c137 none 0 0 h138 ac w (hA.sub _ rfl) hS
theorem F_column_ReadInts_1 {r : World} {L : List HP} {w : World} {Z : Nat → Prop} {wz : World} (a0 : S106) (a1 : (List Int)) (g0 : Nat) (g1 : Nat) {y : ((S106 × (List Int)) ⊕ (S106 × (List Int)))} (hF : column_ReadInts_1 a0 a1 = some y) (qz : Nat) (hZ : L[qz]? = some (zone Z wz)) (hS : SH r (obj106 Z wz g0 a0 :: obj90 g1 a1 :: L) w) :
  RetS Tryd.prog 77 #[.pointer (some ⟨g0, 0, none⟩), .pointer (some ⟨g1, 0, none⟩)] w badC y (fun y v w' => v = .tuple #[] ∧ SH r (obj106 Z wz g0 y.1 :: obj90 g1 y.2 :: L) w') (fun y w' => SH r (obj106 Z wz g0 y.1 :: obj90 g1 y.2 :: L) w') := by
 refine enterS Tryd.func77 rfl Tryd.ntmps77 [(0, .pointer (some ⟨g0, 0, none⟩)), (1, .pointer (some ⟨g1, 0, none⟩))] rfl (by simp) ?_
 intro ac hA Qf hQ hQn hQp
 unfold column_ReadInts_1 at hF
 obtain ⟨A101, n102, c103, hS⟩ := obj106_open hS
 replace hS := hS.pk 1
 have hQ0 := SH.unpure hS
 clear hS
 obtain ⟨h104, hS⟩ := hQ0
 replace hS := hS.pk 1
 obtain ⟨A105, n106, c107, hS⟩ := obj90_open hS
 refine wp_reg ?_
 refine x_m hA rfl fun ac hA => ?_
 replace hS := SH.pure_ h104 hS
 replace hS := hS.pk 3
 replace hS := obj106_mk (x := a0) hS
 obtain ⟨y108, h109, hF⟩ := bnd hF
 rcases y108 with y108 | y108
 rotate_left
 ·replace hF := sum_r hF
  refine x_callp (vs := #[.pointer (some ⟨g0, 0, none⟩)]) en78 hA (RetS.rf (F_column_ints (L := blk g1 90 [.slice A105 n106 c107] :: own (kI .i64) 2 A105 n106 c107 a1 :: L) a0 g0 h109 (qz + 2) hZ hS)) (fun w hR => ?_) rfl rfl rfl rfl rfl
  replace hS := hR
  obtain ⟨A110, n111, c112, hS⟩ := obj106_open hS
  replace hS := hS.pk 1
  have hQ0 := SH.unpure hS
  clear hS
  obtain ⟨h113, hS⟩ := hQ0
  replace hS := SH.pure_ h113 hS
  replace hS := hS.pk 1
  replace hS := obj106_mk (x := y108) hS
  replace hS := hS.pk 2
  replace hS := hS.pk 2
  replace hS := obj90_mk (x := a1) hS
  replace hS := hS.pk 1
  cases hF
  exact hQp _ rfl _ _ hA.defers hS
 replace hF := sum_l hF
 refine x_callw (vs := #[.pointer (some ⟨g0, 0, none⟩)]) en78 hA (RetS.lf (F_column_ints (L := blk g1 90 [.slice A105 n106 c107] :: own (kI .i64) 2 A105 n106 c107 a1 :: L) a0 g0 h109 (qz + 2) hZ hS)) (fun v ac w hR hA => ?_) rfl rfl rfl rfl rfl rfl rfl
 obtain ⟨B114, m115, d116, rfl, hS⟩ := hR
 replace hS := hS.pk 1
 obtain ⟨A117, n118, c119, hS⟩ := obj106_open hS
 replace hS := hS.pk 1
 have hQ0 := SH.unpure hS
 clear hS
 obtain ⟨h120, hS⟩ := hQ0
 refine x_stb 2 sz90 hA hS rfl (fun  ac w hS hA => ?_) rfl rfl rfl rfl rfl rfl rfl rfl
 refine wpList_nil ?_
 replace hS := SH.pure_ h120 hS
 replace hS := hS.pk 2
 replace hS := obj106_mk (x := y108.2) hS
 replace hS := hS.pk 2
 replace hS := hS.pk 2
 replace hS := obj90_mk (x := y108.1) hS
 replace hS := hS.drop 2
 replace hS := hS.pk 1
 cases hF
 refine hQn _ rfl _ _ ?_
 refine lv0n Tryd.results77 hA ?_
 exact ⟨rfl, hS⟩
theorem F_Try_column_ReadInts_1 {r : World} {L : List HP} {w : World} {Z : Nat → Prop} {wz : World} (a0 : (List Int)) (a60 : (List Int)) (A0 : Option Addr) (n0 : Nat) (c0 : Nat) (g60 : Nat) {y : (Bool × (List Int))} (hF : Try_column_ReadInts_1 a0 a60 = some y) (qz : Nat) (hZ : L[qz]? = some (zone Z wz)) (ha0 : Imm Z wz (kI .u8) A0 n0 c0 a0) (hS : SH r (obj90 g60 a60 :: L) w) :
  Ret Tryd.prog 39 #[.slice A0 n0 c0, .func (.func 77) #[] #[.pointer (some ⟨g60, 0, none⟩)]] w fun v w' => v = .bool y.1 ∧ SH r (obj90 g60 y.2 :: L) w' := by
 obtain ⟨y', hy, hF⟩ := bnd hF
 refine Ret.mono_ (try_walk (R := fun v w' => v = .bool y.1 ∧ SH r (obj90 g60 y.2 :: L) w') en77 hS (fun g g4 w1 hS1 => ?_)) (fun v w' h => h)
 replace hS1 := obj106_mk (x := ⟨a0⟩) (hS1.pk 1 |> fun h => (SH.pure_ ha0 (h.pk 1)).pk 1)
 replace hS1 := hS1.pk 1
 replace hS1 := hS1.pk 2
 replace hS1 := hS1.pk 2
 rcases y' with y' | y'
 ·replace hF := sum_l hF
  cases hF
  left
  refine Ret.mono_ (RetS.lf (F_column_ReadInts_1 (L := blk g4 4 [.bool false] :: L) (⟨a0⟩ : S106) a60 g g60 hy (qz + 1) hZ hS1)) ?_
  rintro v w2 ⟨rfl, hS⟩
  replace hS := hS.pk 2
  replace hS := hS.pk 1
  obtain ⟨A', n', c', hS⟩ := obj106_open hS
  have hQ := SH.unpure (hS.pk 1)
  clear hS
  obtain ⟨hi, hS⟩ := hQ
  refine ⟨_, A', n', c', hS, fun w3 h3 => ⟨?_, h3⟩⟩
  rw [← hi.ln]
 ·replace hF := sum_r hF
  cases hF
  right
  refine Calls.mono (RetS.rf (F_column_ReadInts_1 (L := blk g4 4 [.bool false] :: L) (⟨a0⟩ : S106) a60 g g60 hy (qz + 1) hZ hS1)) ?_
  rintro e w2 ⟨rfl, hS⟩
  replace hS := hS.pk 2
  replace hS := hS.drop 1
  exact ⟨rfl, _, hS, fun w3 h3 => ⟨rfl, h3⟩⟩
theorem F_column_ReadInts {r : World} {L : List HP} {w : World} {Z : Nat → Prop} {wz : World} (a0 : (List Int)) (A0 : Option Addr) (n0 : Nat) (c0 : Nat) {y : ((List Int) × Int)} (hF : column_ReadInts a0 = some y) (qz : Nat) (hZ : L[qz]? = some (zone Z wz)) (ha0 : Imm Z wz (kI .u8) A0 n0 c0 a0) (hS : SH r (L) w) :
  Ret Tryd.prog 63 #[.slice A0 n0 c0] w fun v w' => ∃ (B0 : Option Addr) (m0 : Nat) (d0 : Nat), v = .tuple #[(.slice B0 m0 d0), (.int .i64 y.2)] ∧ SH r (own (kI .i64) 2 B0 m0 d0 y.1 :: L) w' := by
 refine enter Tryd.func63 rfl Tryd.ntmps63 [(0, .slice A0 n0 c0)] rfl (by simp) ?_
 intro ac hA Qf hQ hQn
 unfold column_ReadInts at hF
 refine ws fun K101 hK101 => ?_
 refine x_m hA rfl fun ac hA => ?_
 refine x_m hA rfl fun ac hA => ?_
 refine wn (hK101 _ _ ?_)
 refine ws fun K102 hK102 => ?_
 refine x_alloc (cs := [.slice none 0 0]) zr90 hA hS (fun g103 ac w hS hA => ?_) rfl rfl rfl rfl rfl
 refine wn (hK102 _ _ ?_)
 refine wp_seq_k fun K104 hK104 => ?_
 refine ws fun K105 hK105 => ?_
 refine x_m hA rfl fun ac hA => ?_
 refine x_v hA (r_makeFunc rfl (mapev (vals := #[]) hA rfl) (mapev (vals := #[.pointer (some ⟨g103, 0, none⟩)]) hA rfl)) rfl fun ac hA => ?_
 replace hS := SH.nil_own (d := (kI .i64)) (e := 2) hS
 replace hS := hS.pk 1
 replace hS := obj90_mk (x := []) hS
 obtain ⟨y106, h107, hF⟩ := bnd hF
 refine x_call en39 hA (F_Try_column_ReadInts_1 (L := L) a0 [] A0 n0 c0 g103 h107 (qz + 0) hZ ha0 hS) (fun v ac w hR hA => ?_) rfl rfl rfl rfl rfl
 obtain ⟨rfl, hS⟩ := hR
 obtain ⟨A108, n109, c110, hS⟩ := obj90_open hS
 refine x_v hA (r_not rfl (hA.ev rfl)) rfl fun ac hA => ?_
 refine wn (hK105 _ _ ?_)
 refine c_if hA rfl (fun hb111 => ?_) fun hb111 => ?_
 ·replace hF := ift hb111 hF
  refine ws fun K112 hK112 => ?_
  refine x_m hA rfl fun ac hA => ?_
  refine x_m hA rfl fun ac hA => ?_
  refine wn (hK112 _ _ ?_)
  refine wp_ret ?_
  replace hS := SH.nil_own (d := (kI .i64)) (e := 2) hS
  replace hS := hS.drop 1
  replace hS := hS.drop 1
  cases hF
  refine hQ _ _ ?_
  refine lv2 Tryd.results63 hA rfl rfl ?_
  exact ⟨none, 0, 0, rfl, hS⟩
 replace hF := iff' hb111 hF
 refine wp_skip ?_
 refine hK104 _ _ ?_
 refine ws fun K113 hK113 => ?_
 refine x_ld Tryd.underlying90 (hS.cell 0 rfl 0 _ rfl) hA (fun ac hA => ?_) rfl rfl rfl rfl rfl rfl
 refine x_m hA rfl fun ac hA => ?_
 refine x_m hA rfl fun ac hA => ?_
 refine wn (hK113 _ _ ?_)
 refine wp_ret ?_
 replace hS := hS.drop 0
 cases hF
 refine hQ _ _ ?_
 refine lv2 Tryd.results63 hA rfl rfl ?_
 exact ⟨A108, n109, c110, rfl, hS⟩
end Go.Proofs.YteodeedejjcmgaaDoor.M
namespace Go.Proofs.YteodeedejjcmgaaDoor.M
open Go Go.RowKit Go.Proofs.YteodeedejjcmgaaDoor.E
set_option linter.unusedVariables false
set_option linter.unusedSimpArgs false
noncomputable def math_IsNaN (a0 : Nat) : Option (Bool) :=
  some (!feq a0 a0)
noncomputable def real_Canon (a0 : Nat) : Option (Nat) :=
  (math_IsNaN a0).bind fun y104 => (if y104 = true then (some ((9221120237041090560 : Int).toNat)) else (some a0))
noncomputable def real_Bits (a0 : Nat) : Option (Int) :=
  (real_Canon a0).bind fun y103 => (some (y103 : Int))
noncomputable def real_Of (a0 : Int) : Option (Nat) :=
  (real_Canon a0.toNat).bind fun y103 => (some y103)
noncomputable def column_ReadReals_b1 (l450 : (List Nat)) : Option ((List Nat) × Int) :=
  some (l450, 0)
noncomputable def column_ReadReals_x1_0 (l532 : (List Nat)) : Option ((List Nat) × Int) :=
  column_ReadReals_b1 l532
noncomputable def column_ReadReals_l1 (y103 : ((List Int) × Int)) (l495 : (List Nat)) (x499 : Int) : Option (((List Nat) × Int) ⊕ (((List Nat)) ⊕ ((List Nat) × Int))) :=
  if (decide (x499 < (y103.1.length : Int))) = true then ((at_ y103.1 x499).bind fun x543 => (ltt (IntKind.u64.wrap x543) fun x547 => ((real_Of x547).bind fun y549 => ((real_Bits y549).bind fun y553 => (if (y553 != x547) = true then (some (.inr (.inr ([], 3)))) else (chk (l495.length + [y549].length ≤ 140737488355328 / 8) (ltt (IntKind.i64.wrap (x499 + 1)) fun x562 => (some (.inl (l495 ++ [y549], x562)))))))))) else (some (.inr (.inl (l495))))
noncomputable def column_ReadReals (a0 : (List Int)) : Option ((List Nat) × Int) :=
  (column_ReadInts a0).bind fun y103 => (if (y103.2 != 0) = true then (some ([], y103.2)) else ((loop (fun s => column_ReadReals_l1 y103 s.1 s.2) ([], 0)).bind fun t => match t with | (.inl t) => column_ReadReals_x1_0 t | (.inr t) => some t))
end Go.Proofs.YteodeedejjcmgaaDoor.M
namespace Go.Proofs.YteodeedejjcmgaaDoor.M
open Go Go.RowKit Go.Proofs.YteodeedejjcmgaaDoor.E
set_option linter.unusedVariables false
set_option maxRecDepth 100000
set_option maxHeartbeats 4000000
set_option linter.unusedSimpArgs false
theorem F_math_IsNaN {r : World} {L : List HP} {w : World} (a0 : Nat) {y : (Bool)} (hF : math_IsNaN a0 = some y) (hS : SH r (L) w) :
  Ret Tryd.prog 102 #[.float .f64 a0] w fun v w' => v = .bool y ∧ SH r (L) w' := by
 refine enter Tryd.func102 rfl Tryd.ntmps102 [(0, .float .f64 a0)] rfl (by simp) ?_
 intro ac hA Qf hQ hQn
 unfold math_IsNaN at hF
 refine ws fun K101 hK101 => ?_
 refine x_m hA rfl fun ac hA => ?_
 refine wn (hK101 _ _ ?_)
 refine ws fun K102 hK102 => ?_
 refine x_m hA rfl fun ac hA => ?_
 refine x_m hA rfl fun ac hA => ?_
 refine x_v hA (r_neF rfl (hA.ev rfl) (hA.ev rfl)) rfl fun ac hA => ?_
 refine x_m hA rfl fun ac hA => ?_
 refine wn (hK102 _ _ ?_)
 refine wp_ret ?_
 cases hF
 refine hQ _ _ ?_
 refine lv Tryd.results102 hA rfl ?_
 exact ⟨rfl, hS⟩
theorem F_real_Canon {r : World} {L : List HP} {w : World} (a0 : Nat) {y : (Nat)} (hF : real_Canon a0 = some y) (hS : SH r (L) w) :
  Ret Tryd.prog 90 #[.float .f64 a0] w fun v w' => v = .float .f64 y ∧ SH r (L) w' := by
 refine enter Tryd.func90 rfl Tryd.ntmps90 [(0, .float .f64 a0)] rfl (by simp) ?_
 intro ac hA Qf hQ hQn
 unfold real_Canon at hF
 refine ws fun K101 hK101 => ?_
 refine x_m hA rfl fun ac hA => ?_
 refine wn (hK101 _ _ ?_)
 refine wp_seq_k fun K102 hK102 => ?_
 refine ws fun K103 hK103 => ?_
 refine x_m hA rfl fun ac hA => ?_
 obtain ⟨y104, h105, hF⟩ := bnd hF
 refine x_call en102 hA (F_math_IsNaN (L := L) a0 h105 hS) (fun v ac w hR hA => ?_) rfl rfl rfl rfl rfl
 obtain ⟨rfl, hS⟩ := hR
 refine wn (hK103 _ _ ?_)
 refine c_if hA rfl (fun hb106 => ?_) fun hb106 => ?_
 ·replace hF := ift hb106 hF
  refine ws fun K107 hK107 => ?_
  refine x_v hA (r_ext (ex95 _) rfl (evs hA rfl)) rfl fun ac hA => ?_
  refine x_m hA rfl fun ac hA => ?_
  refine wn (hK107 _ _ ?_)
  refine wp_ret ?_
  cases hF
  refine hQ _ _ ?_
  refine lv Tryd.results90 hA rfl ?_
  exact ⟨rfl, hS⟩
 replace hF := iff' hb106 hF
 refine wp_skip ?_
 refine hK102 _ _ ?_
 refine ws fun K108 hK108 => ?_
 refine x_m hA rfl fun ac hA => ?_
 refine x_m hA rfl fun ac hA => ?_
 refine wn (hK108 _ _ ?_)
 refine wp_ret ?_
 cases hF
 refine hQ _ _ ?_
 refine lv Tryd.results90 hA rfl ?_
 exact ⟨rfl, hS⟩
theorem F_real_Bits {r : World} {L : List HP} {w : World} (a0 : Nat) {y : (Int)} (hF : real_Bits a0 = some y) (hS : SH r (L) w) :
  Ret Tryd.prog 73 #[.float .f64 a0] w fun v w' => v = .int .u64 y ∧ SH r (L) w' := by
 refine enter Tryd.func73 rfl Tryd.ntmps73 [(0, .float .f64 a0)] rfl (by simp) ?_
 intro ac hA Qf hQ hQn
 unfold real_Bits at hF
 refine ws fun K101 hK101 => ?_
 refine x_m hA rfl fun ac hA => ?_
 refine wn (hK101 _ _ ?_)
 refine ws fun K102 hK102 => ?_
 refine x_m hA rfl fun ac hA => ?_
 obtain ⟨y103, h104, hF⟩ := bnd hF
 refine x_call en90 hA (F_real_Canon (L := L) a0 h104 hS) (fun v ac w hR hA => ?_) rfl rfl rfl rfl rfl
 obtain ⟨rfl, hS⟩ := hR
 refine x_v hA (r_ext (ex89 _) rfl (evs hA rfl)) rfl fun ac hA => ?_
 refine x_m hA rfl fun ac hA => ?_
 refine wn (hK102 _ _ ?_)
 refine wp_ret ?_
 cases hF
 refine hQ _ _ ?_
 refine lv Tryd.results73 hA rfl ?_
 exact ⟨rfl, hS⟩
theorem F_real_Of {r : World} {L : List HP} {w : World} (a0 : Int) {y : (Nat)} (hF : real_Of a0 = some y) (hS : SH r (L) w) :
  Ret Tryd.prog 81 #[.int .u64 a0] w fun v w' => v = .float .f64 y ∧ SH r (L) w' := by
 refine enter Tryd.func81 rfl Tryd.ntmps81 [(0, .int .u64 a0)] rfl (by simp) ?_
 intro ac hA Qf hQ hQn
 unfold real_Of at hF
 refine ws fun K101 hK101 => ?_
 refine x_m hA rfl fun ac hA => ?_
 refine wn (hK101 _ _ ?_)
 refine ws fun K102 hK102 => ?_
 refine x_m hA rfl fun ac hA => ?_
 refine x_v hA (r_ext (ex95 _) rfl (evs hA rfl)) rfl fun ac hA => ?_
 obtain ⟨y103, h104, hF⟩ := bnd hF
 refine x_call en90 hA (F_real_Canon (L := L) a0.toNat h104 hS) (fun v ac w hR hA => ?_) rfl rfl rfl rfl rfl
 obtain ⟨rfl, hS⟩ := hR
 refine x_m hA rfl fun ac hA => ?_
 refine wn (hK102 _ _ ?_)
 refine wp_ret ?_
 cases hF
 refine hQ _ _ ?_
 refine lv Tryd.results81 hA rfl ?_
 exact ⟨rfl, hS⟩
theorem F_column_ReadReals {r : World} {L : List HP} {w : World} {Z : Nat → Prop} {wz : World} (a0 : (List Int)) (A0 : Option Addr) (n0 : Nat) (c0 : Nat) {y : ((List Nat) × Int)} (hF : column_ReadReals a0 = some y) (qz : Nat) (hZ : L[qz]? = some (zone Z wz)) (ha0 : Imm Z wz (kI .u8) A0 n0 c0 a0) (hS : SH r (L) w) :
  Ret Tryd.prog 65 #[.slice A0 n0 c0] w fun v w' => ∃ (B0 : Option Addr) (m0 : Nat) (d0 : Nat), v = .tuple #[(.slice B0 m0 d0), (.int .i64 y.2)] ∧ SH r (own kF 42 B0 m0 d0 y.1 :: L) w' := by
 refine enter Tryd.func65 rfl Tryd.ntmps65 [(0, .slice A0 n0 c0)] rfl (by simp) ?_
 intro ac hA Qf hQ hQn
 unfold column_ReadReals at hF
 refine ws fun K101 hK101 => ?_
 refine x_m hA rfl fun ac hA => ?_
 refine x_m hA rfl fun ac hA => ?_
 refine wn (hK101 _ _ ?_)
 refine ws fun K102 hK102 => ?_
 refine x_m hA rfl fun ac hA => ?_
 obtain ⟨y103, h104, hF⟩ := bnd hF
 refine x_call en63 hA (F_column_ReadInts (L := L) a0 A0 n0 c0 h104 (qz + 0) hZ ha0 hS) (fun v ac w hR hA => ?_) rfl rfl rfl rfl rfl
 obtain ⟨B105, m106, d107, rfl, hS⟩ := hR
 refine x_m hA rfl fun ac hA => ?_
 refine x_v hA (r_extract rfl (hA.ev rfl) rfl) rfl fun ac hA => ?_
 refine x_v hA (r_extract rfl (hA.ev rfl) rfl) rfl fun ac hA => ?_
 refine x_m hA rfl fun ac hA => ?_
 refine x_m hA rfl fun ac hA => ?_
 refine wn (hK102 _ _ ?_)
 refine wp_seq_k fun K108 hK108 => ?_
 refine ws fun K109 hK109 => ?_
 refine x_m hA rfl fun ac hA => ?_
 refine x_v hA (r_neI rfl (hA.ev rfl) (hA.ev rfl)) rfl fun ac hA => ?_
 refine wn (hK109 _ _ ?_)
 refine c_if hA rfl (fun hb110 => ?_) fun hb110 => ?_
 ·replace hF := ift hb110 hF
  refine ws fun K111 hK111 => ?_
  refine x_m hA rfl fun ac hA => ?_
  refine x_m hA rfl fun ac hA => ?_
  refine x_m hA rfl fun ac hA => ?_
  refine wn (hK111 _ _ ?_)
  refine wp_ret ?_
  replace hS := SH.nil_own (d := kF) (e := 42) hS
  replace hS := hS.drop 1
  cases hF
  refine hQ _ _ ?_
  refine lv2 Tryd.results65 hA rfl rfl ?_
  exact ⟨none, 0, 0, rfl, hS⟩
 replace hF := iff' hb110 hF
 refine wp_skip ?_
 refine hK108 _ _ ?_
 refine ws fun K112 hK112 => ?_
 refine x_m hA rfl fun ac hA => ?_
 refine wn (hK112 _ _ ?_)
 refine wp_seq_k fun K113 hK113 => ?_
 refine ws fun K339 hK339 => ?_
 refine x_m hA rfl fun ac hA => ?_
 refine x_len Tryd.underlying90 (hS.rd 0 rfl).2.1 hA (fun ac hA => ?_) rfl rfl rfl rfl rfl
 refine x_m hA rfl fun ac hA => ?_
 refine wn (hK339 _ _ ?_)
 refine wp_block_k fun Kx340 hKx340 => ?_
 have hb1 : ∀ (l450 : (List Nat)), column_ReadReals_b1 l450 = some y → ∀ (A451 : Option Addr) (n452 : Nat) (c453 : Nat) (ac : Act) (w : World), FR 38 [] ac [(6, .slice A451 n452 c453)] → SH r (own kF 42 A451 n452 c453 l450 :: L) w → Kx340 ac w := by
  intro l450 hF A451 n452 c453 ac w hA hS
  unfold column_ReadReals_b1 at hF
  refine hKx340 _ _ ?_
  refine hK113 _ _ ?_
  refine ws fun K454 hK454 => ?_
  refine x_m hA rfl fun ac hA => ?_
  refine x_m hA rfl fun ac hA => ?_
  refine x_m hA rfl fun ac hA => ?_
  refine wn (hK454 _ _ ?_)
  refine wp_ret ?_
  cases hF
  refine hQ _ _ ?_
  refine lv2 Tryd.results65 hA rfl rfl ?_
  exact ⟨A451, n452, c453, rfl, hS⟩
 obtain ⟨t535, hl535, hF⟩ := bnd hF
 have hR535 := hF
 have hx535_0 : ∀ (l532 : (List Nat)), (.inl (l532)) = t535 → ∀ (A533 : Option Addr) (n534 : Nat) (c535 : Nat) (ac : Act) (w : World), FR 38 [] ac [(6, .slice A533 n534 c535)] → SH r (own kF 42 A533 n534 c535 l532 :: L) w → Kx340 ac w := by
  intro l532 ht A533 n534 c535 ac w hA hS
  subst ht
  replace hF : column_ReadReals_x1_0 l532 = some y := hF
  unfold column_ReadReals_x1_0 at hF
  exact hb1 l532 hF A533 n534 c535 ac w (hA.sub _ rfl) hS
 replace hS := SH.nil_own (d := kF) (e := 42) hS
 refine wp_loop_fn hl535 (fun s ac w => ∃ (A496 : Option Addr) (n497 : Nat) (c498 : Nat), FR 38 [] ac [(6, .slice A496 n497 c498), (18, .slice B105 m106 d107), (19, .int .i64 (y103.1.length : Int)), (20, .int .i64 s.2)] ∧ SH r (own kF 42 A496 n497 c498 s.1 :: own (kI .i64) 2 B105 m106 d107 y103.1 :: L) w) ⟨none, 0, 0, hA.sub _ rfl, hS⟩ ?_
 intro N535 s535 o535 hF N535_ T535_ ac w hLab
 obtain ⟨l495, x499⟩ := s535
 replace hF : column_ReadReals_l1 y103 l495 x499 = some o535 := hF
 unfold column_ReadReals_l1 at hF
 try dsimp only at hLab
 obtain ⟨A496, n497, c498, hA, hS⟩ := hLab
 refine ws fun K537 hK537 => ?_
 refine x_v hA (r_ltI rfl (hA.ev rfl) (hA.ev rfl)) rfl fun ac hA => ?_
 refine wn (hK537 _ _ ?_)
 refine wp_seq_k fun K538 hK538 => ?_
 refine c_if hA rfl (fun hb539 => ?_) fun hb539 => ?_
 ·replace hF := ift hb539 hF
  refine wp_skip ?_
  refine hK538 _ _ ?_
  refine wp_seq_k fun K540 hK540 => ?_
  refine wp_block_k fun Kx541 hKx541 => ?_
  refine ws fun K542 hK542 => ?_
  obtain ⟨x543, h544, hF⟩ := bnd hF
  refine x_ia Tryd.underlying90 sz2 (hS.rd 1 rfl) h544 hA (fun ac hA => ?_) rfl rfl rfl rfl rfl rfl
  obtain ⟨cs, hV, hc545⟩ := el (hS.rd 1 rfl) h544
  obtain rfl := hV
  refine x_ld Tryd.underlying2 (hc545 0 _ rfl) hA (fun ac hA => ?_) rfl rfl rfl rfl rfl rfl
  refine x_m hA rfl fun ac hA => ?_
  refine wn (hK542 _ _ ?_)
  refine ws fun K546 hK546 => ?_
  refine x_m hA rfl fun ac hA => ?_
  obtain ⟨x547, h548, hF⟩ := ltt_ hF
  refine x_v (v := .int .u64 x547) hA (rv_i h548 (r_convI Tryd.underlying2 Tryd.underlying31 rfl (hA.ev rfl))) rfl fun ac hA => ?_
  obtain ⟨y549, h550, hF⟩ := bnd hF
  refine x_call en81 hA (F_real_Of (L := own kF 42 A496 n497 c498 l495 :: own (kI .i64) 2 B105 m106 d107 y103.1 :: L) x547 h550 hS) (fun v ac w hR hA => ?_) rfl rfl rfl rfl rfl
  obtain ⟨rfl, hS⟩ := hR
  refine x_m hA rfl fun ac hA => ?_
  refine wn (hK546 _ _ ?_)
  refine wp_seq_k fun K551 hK551 => ?_
  refine ws fun K552 hK552 => ?_
  refine x_m hA rfl fun ac hA => ?_
  obtain ⟨y553, h554, hF⟩ := bnd hF
  refine x_call en73 hA (F_real_Bits (L := own kF 42 A496 n497 c498 l495 :: own (kI .i64) 2 B105 m106 d107 y103.1 :: L) y549 h554 hS) (fun v ac w hR hA => ?_) rfl rfl rfl rfl rfl
  obtain ⟨rfl, hS⟩ := hR
  refine x_m hA rfl fun ac hA => ?_
  refine x_v (v := .int .u64 x547) hA (rv_i h548 (r_convI Tryd.underlying2 Tryd.underlying31 rfl (hA.ev rfl))) rfl fun ac hA => ?_
  refine x_v hA (r_neI rfl (hA.ev rfl) (hA.ev rfl)) rfl fun ac hA => ?_
  refine wn (hK552 _ _ ?_)
  refine c_if hA rfl (fun hb555 => ?_) fun hb555 => ?_
  ·replace hF := ift hb555 hF
   refine ws fun K556 hK556 => ?_
   refine x_m hA rfl fun ac hA => ?_
   refine x_m hA rfl fun ac hA => ?_
   refine wn (hK556 _ _ ?_)
   refine wp_ret ?_
   replace hS := SH.nil_own (d := kF) (e := 42) hS
   replace hS := hS.drop 1
   replace hS := hS.drop 1
   cases hF
   have ht := T535_ _ rfl
   subst ht
   replace hF := hR535
   replace hF : some ([], 3) = some y := hF
   cases hF
   refine hQ _ _ ?_
   refine lv2 Tryd.results65 hA rfl rfl ?_
   exact ⟨none, 0, 0, rfl, hS⟩
  replace hF := iff' hb555 hF
  refine wp_skip ?_
  refine hK551 _ _ ?_
  refine wp_reg ?_
  refine x_m hA rfl fun ac hA => ?_
  refine x_m hA rfl fun ac hA => ?_
  refine x_bsl (d := kF) (e := 42) (ps := #[(0, .float .f64 y549)]) (cells := [.float .f64 y549]) (xs := [y549]) (fun w => by kernel_rfl) rfl ⟨[.float .f64 y549], _, rfl, rfl, rfl⟩ hA hS (fun g557 ac w hS hA => ?_) rfl rfl rfl rfl rfl rfl
  obtain ⟨h558, hF⟩ := chk_some hF
  have hr := hS.rd 0 rfl
  refine x_app 1 inf42 Tryd.underlying92 hA hS hr.1 hr.2.1 h558 rfl (fun A559 n560 c561 ac w hS hA => ?_) rfl rfl rfl rfl rfl rfl rfl rfl rfl
  refine x_m hA rfl fun ac hA => ?_
  refine wpList_nil ?_
  refine hKx541 _ _ ?_
  refine hK540 _ _ ?_
  refine wp_reg ?_
  obtain ⟨x562, h563, hF⟩ := ltt_ hF
  refine x_v (v := .int .i64 x562) hA (rv_i h563 (r_add rfl (hA.ev rfl) (hA.ev rfl))) rfl fun ac hA => ?_
  refine x_m hA rfl fun ac hA => ?_
  refine wpList_nil ?_
  replace hS := hS.drop 1
  cases hF
  exact ⟨_, N535_ _ rfl, A559, n560, c561, hA.sub _ rfl, hS⟩
 replace hF := iff' hb539 hF
 refine wp_exit ?_
 replace hS := hS.drop 1
 cases hF
 exact hx535_0 l495 (T535_ _ rfl) A496 n497 c498 ac w (hA.sub _ rfl) hS
end Go.Proofs.YteodeedejjcmgaaDoor.M
namespace Go.Proofs.YteodeedejjcmgaaDoor.M
open Go Go.RowKit Go.Proofs.YteodeedejjcmgaaDoor.E
set_option linter.unusedVariables false
set_option linter.unusedSimpArgs false
noncomputable def column_Reals_b1 (l377 : (List Int)) : Option ((List Int)) :=
  (column_Ints l377).bind fun y382 => (some y382)
noncomputable def column_Reals_x1_0 (l450 : (List Int)) : Option ((List Int)) :=
  column_Reals_b1 l450
noncomputable def column_Reals_l1 (a0 : (List Nat)) (l420 : (List Int)) (x424 : Int) : Option (((List Int) × Int) ⊕ (((List Int)))) :=
  if (decide (x424 < (a0.length : Int))) = true then ((at_ a0 x424).bind fun x461 => ((real_Bits x461).bind fun y464 => (ltt (IntKind.i64.wrap y464) fun x466 => (chk (l420.length + [x466].length ≤ 140737488355328 / 8) (ltt (IntKind.i64.wrap (x424 + 1)) fun x473 => (some (.inl (l420 ++ [x466], x473)))))))) else (some (.inr (l420)))
noncomputable def column_Reals (a0 : (List Nat)) : Option ((List Int)) :=
  (loop (fun s => column_Reals_l1 a0 s.1 s.2) ([], 0)).bind fun t => column_Reals_x1_0 t
end Go.Proofs.YteodeedejjcmgaaDoor.M
namespace Go.Proofs.YteodeedejjcmgaaDoor.M
open Go Go.RowKit Go.Proofs.YteodeedejjcmgaaDoor.E
set_option linter.unusedVariables false
set_option maxRecDepth 100000
set_option maxHeartbeats 4000000
set_option linter.unusedSimpArgs false
theorem F_column_Reals {r : World} {L : List HP} {w : World} (a0 : (List Nat)) (A0 : Option Addr) (n0 : Nat) (c0 : Nat) {y : ((List Int))} (hF : column_Reals a0 = some y) (ha0 : RdL L kF A0 n0 c0 a0) (hS : SH r (L) w) :
  Ret Tryd.prog 47 #[.slice A0 n0 c0] w fun v w' => ∃ (B0 : Option Addr) (m0 : Nat) (d0 : Nat), v = .slice B0 m0 d0 ∧ SH r (own (kI .u8) 5 B0 m0 d0 y :: L) w' := by
 refine enter Tryd.func47 rfl Tryd.ntmps47 [(0, .slice A0 n0 c0)] rfl (by simp) ?_
 intro ac hA Qf hQ hQn
 unfold column_Reals at hF
 refine ws fun K101 hK101 => ?_
 refine x_m hA rfl fun ac hA => ?_
 refine wn (hK101 _ _ ?_)
 refine ws fun K102 hK102 => ?_
 refine x_m hA rfl fun ac hA => ?_
 refine wn (hK102 _ _ ?_)
 refine wp_seq_k fun K103 hK103 => ?_
 refine ws fun K287 hK287 => ?_
 refine x_m hA rfl fun ac hA => ?_
 refine x_len Tryd.underlying92 (hS.rdl 0 ha0 rfl).2.1 hA (fun ac hA => ?_) rfl rfl rfl rfl rfl
 refine x_m hA rfl fun ac hA => ?_
 refine wn (hK287 _ _ ?_)
 refine wp_block_k fun Kx288 hKx288 => ?_
 have hb1 : ∀ (l377 : (List Int)), column_Reals_b1 l377 = some y → ∀ (A378 : Option Addr) (n379 : Nat) (c380 : Nat) (ac : Act) (w : World), FR 21 [] ac [(3, .slice A378 n379 c380)] → SH r (own (kI .i64) 2 A378 n379 c380 l377 :: L) w → Kx288 ac w := by
  intro l377 hF A378 n379 c380 ac w hA hS
  unfold column_Reals_b1 at hF
  refine hKx288 _ _ ?_
  refine hK103 _ _ ?_
  refine ws fun K381 hK381 => ?_
  refine x_m hA rfl fun ac hA => ?_
  obtain ⟨y382, h383, hF⟩ := bnd hF
  refine x_call en45 hA (F_column_Ints (L := own (kI .i64) 2 A378 n379 c380 l377 :: L) l377 A378 n379 c380 h383 (RdL.own 0 rfl (hS.dropN 0)) hS) (fun v ac w hR hA => ?_) rfl rfl rfl rfl rfl
  obtain ⟨B384, m385, d386, rfl, hS⟩ := hR
  refine x_m hA rfl fun ac hA => ?_
  refine wn (hK381 _ _ ?_)
  refine wp_ret ?_
  replace hS := hS.drop 1
  cases hF
  refine hQ _ _ ?_
  refine lv Tryd.results47 hA rfl ?_
  exact ⟨B384, m385, d386, rfl, hS⟩
 obtain ⟨t453, hl453, hF⟩ := bnd hF
 have hx453_0 : ∀ (l450 : (List Int)), (l450) = t453 → ∀ (A451 : Option Addr) (n452 : Nat) (c453 : Nat) (ac : Act) (w : World), FR 21 [] ac [(3, .slice A451 n452 c453)] → SH r (own (kI .i64) 2 A451 n452 c453 l450 :: L) w → Kx288 ac w := by
  intro l450 ht A451 n452 c453 ac w hA hS
  subst ht
  replace hF : column_Reals_x1_0 l450 = some y := hF
  unfold column_Reals_x1_0 at hF
  exact hb1 l450 hF A451 n452 c453 ac w (hA.sub _ rfl) hS
 replace hS := SH.nil_own (d := (kI .i64)) (e := 2) hS
 refine wp_loop_fn hl453 (fun s ac w => ∃ (A421 : Option Addr) (n422 : Nat) (c423 : Nat), FR 21 [] ac [(3, .slice A421 n422 c423), (6, .slice A0 n0 c0), (7, .int .i64 (a0.length : Int)), (8, .int .i64 s.2)] ∧ SH r (own (kI .i64) 2 A421 n422 c423 s.1 :: L) w) ⟨none, 0, 0, hA.sub _ rfl, hS⟩ ?_
 intro N453 s453 o453 hF N453_ T453_ ac w hLab
 obtain ⟨l420, x424⟩ := s453
 replace hF : column_Reals_l1 a0 l420 x424 = some o453 := hF
 unfold column_Reals_l1 at hF
 try dsimp only at hLab
 obtain ⟨A421, n422, c423, hA, hS⟩ := hLab
 refine ws fun K455 hK455 => ?_
 refine x_v hA (r_ltI rfl (hA.ev rfl) (hA.ev rfl)) rfl fun ac hA => ?_
 refine wn (hK455 _ _ ?_)
 refine wp_seq_k fun K456 hK456 => ?_
 refine c_if hA rfl (fun hb457 => ?_) fun hb457 => ?_
 ·replace hF := ift hb457 hF
  refine wp_skip ?_
  refine hK456 _ _ ?_
  refine wp_seq_k fun K458 hK458 => ?_
  refine wp_block_k fun Kx459 hKx459 => ?_
  refine ws fun K460 hK460 => ?_
  obtain ⟨x461, h462, hF⟩ := bnd hF
  refine x_ia Tryd.underlying92 sz42 (hS.rdl 1 ha0 rfl) h462 hA (fun ac hA => ?_) rfl rfl rfl rfl rfl rfl
  obtain ⟨cs, hV, hc463⟩ := el (hS.rdl 1 ha0 rfl) h462
  obtain rfl := hV
  refine x_ld Tryd.underlying42 (hc463 0 _ rfl) hA (fun ac hA => ?_) rfl rfl rfl rfl rfl rfl
  refine x_m hA rfl fun ac hA => ?_
  refine wn (hK460 _ _ ?_)
  refine wp_reg ?_
  refine x_m hA rfl fun ac hA => ?_
  refine x_m hA rfl fun ac hA => ?_
  obtain ⟨y464, h465, hF⟩ := bnd hF
  refine x_call en73 hA (F_real_Bits (L := own (kI .i64) 2 A421 n422 c423 l420 :: L) x461 h465 hS) (fun v ac w hR hA => ?_) rfl rfl rfl rfl rfl
  obtain ⟨rfl, hS⟩ := hR
  obtain ⟨x466, h467, hF⟩ := ltt_ hF
  refine x_v (v := .int .i64 x466) hA (rv_i h467 (r_convI Tryd.underlying31 Tryd.underlying2 rfl (hA.ev rfl))) rfl fun ac hA => ?_
  refine x_bsl (d := (kI .i64)) (e := 2) (ps := #[(0, .int .i64 x466)]) (cells := [.int .i64 x466]) (xs := [x466]) (fun w => by kernel_rfl) rfl ⟨[.int .i64 x466], _, rfl, rfl, rfl⟩ hA hS (fun g468 ac w hS hA => ?_) rfl rfl rfl rfl rfl rfl
  obtain ⟨h469, hF⟩ := chk_some hF
  have hr := hS.rd 0 rfl
  refine x_app 1 inf2 Tryd.underlying90 hA hS hr.1 hr.2.1 h469 rfl (fun A470 n471 c472 ac w hS hA => ?_) rfl rfl rfl rfl rfl rfl rfl rfl rfl
  refine x_m hA rfl fun ac hA => ?_
  refine wpList_nil ?_
  refine hKx459 _ _ ?_
  refine hK458 _ _ ?_
  refine wp_reg ?_
  obtain ⟨x473, h474, hF⟩ := ltt_ hF
  refine x_v (v := .int .i64 x473) hA (rv_i h474 (r_add rfl (hA.ev rfl) (hA.ev rfl))) rfl fun ac hA => ?_
  refine x_m hA rfl fun ac hA => ?_
  refine wpList_nil ?_
  replace hS := hS.drop 1
  cases hF
  exact ⟨_, N453_ _ rfl, A470, n471, c472, hA.sub _ rfl, hS⟩
 replace hF := iff' hb457 hF
 refine wp_exit ?_
 cases hF
 exact hx453_0 l420 (T453_ _ rfl) A421 n422 c423 ac w (hA.sub _ rfl) hS
end Go.Proofs.YteodeedejjcmgaaDoor.M
namespace Go.Proofs.YteodeedejjcmgaaDoor.M
open Go Go.RowKit Go.Proofs.YteodeedejjcmgaaDoor.E
set_option linter.unusedVariables false
set_option linter.unusedSimpArgs false
noncomputable def slices_Index_bool_bool_b1 : Option (Int) :=
  some (-1)
noncomputable def slices_Index_bool_bool_x1_0 : Option (Int) :=
  slices_Index_bool_bool_b1
noncomputable def slices_Index_bool_bool_l1 (a0 : (List Bool)) (a1 : Bool) (x262 : Int) : Option ((Int) ⊕ ((Unit) ⊕ (Int))) :=
  if (decide (x262 < (a0.length : Int))) = true then ((at_ a0 x262).bind fun x286 => (if (a1 == x286) = true then (some (.inr (.inr x262))) else (ltt (IntKind.i64.wrap (x262 + 1)) fun x291 => (some (.inl (x291)))))) else (some (.inr (.inl ())))
noncomputable def slices_Index_bool_bool (a0 : (List Bool)) (a1 : Bool) : Option (Int) :=
  (loop (fun s => slices_Index_bool_bool_l1 a0 a1 s) (0)).bind fun t => match t with | (.inl t) => slices_Index_bool_bool_x1_0 | (.inr t) => some t
noncomputable def slices_Contains_bool_bool (a0 : (List Bool)) (a1 : Bool) : Option (Bool) :=
  (slices_Index_bool_bool a0 a1).bind fun y103 => (some (decide (0 ≤ y103)))
noncomputable def column_ReadTexts_1_b2 (l1851 : (List Int)) (l1856 : (List (List UInt8))) (l1860 : (List Bool)) : Option ((S106 × (List (List UInt8))) ⊕ (S106 × (List (List UInt8)))) :=
  (slices_Contains_bool_bool l1860 false).bind fun y1861 => ((column_Reader_Check (⟨l1851⟩ : S106) (!y1861)).bind fun y1863 => (sum_ y1863 (fun y1863 => (some (.inl (y1863, l1856)))) (fun y1863 => (some (.inr (y1863, l1856))))))
noncomputable def column_ReadTexts_1_x1_2 (l2048 : (List Int)) (l2053 : (List (List UInt8))) (l2057 : (List Bool)) : Option ((S106 × (List (List UInt8))) ⊕ (S106 × (List (List UInt8)))) :=
  column_ReadTexts_1_b2 l2048 l2053 l2057
noncomputable def column_ReadTexts_1_j1 (l1031 : (List (List UInt8))) (l1960 : (List (List UInt8))) (l1964 : (List Bool)) (x1965 : Int) (x2065 : Int) (l2090 : (List Int)) : Option (((List Int) × (List (List UInt8)) × (List Bool) × Int) ⊕ (((List Int) × (List (List UInt8)) × (List Bool)) ⊕ ((S106 × (List (List UInt8))) ⊕ (S106 × (List (List UInt8)))))) :=
  (at_ l1964 x2065).bind fun x2096 => ((at_ l1031 x2065).bind fun x2098 => (chk (l1960.length + [x2098].length ≤ 140737488355328 / 16) (ltt (IntKind.i64.wrap (x1965 + 1)) fun x2106 => (some (.inl (l2090, l1960 ++ [x2098], l1964.set x2065.toNat true, x2106))))))
noncomputable def column_ReadTexts_1_l1 (l1031 : (List (List UInt8))) (y1580 : ((List Int) × S106)) (l1955 : (List Int)) (l1960 : (List (List UInt8))) (l1964 : (List Bool)) (x1965 : Int) : Option (((List Int) × (List (List UInt8)) × (List Bool) × Int) ⊕ (((List Int) × (List (List UInt8)) × (List Bool)) ⊕ ((S106 × (List (List UInt8))) ⊕ (S106 × (List (List UInt8)))))) :=
  if (decide (x1965 < (y1580.1.length : Int))) = true then ((at_ y1580.1 x1965).bind fun x2065 => (if (decide (0 ≤ x2065)) = true then ((column_Reader_Check (⟨l1955⟩ : S106) (decide (x2065 < (l1031.length : Int)))).bind fun y2109 => (sum_ y2109 (fun y2109 => (column_ReadTexts_1_j1 l1031 l1960 l1964 x1965 x2065 y2109.f0)) (fun y2109 => (some (.inr (.inr (.inr (y2109, l1960)))))))) else ((column_Reader_Check (⟨l1955⟩ : S106) false).bind fun y2119 => (sum_ y2119 (fun y2119 => (column_ReadTexts_1_j1 l1031 l1960 l1964 x1965 x2065 y2119.f0)) (fun y2119 => (some (.inr (.inr (.inr (y2119, l1960)))))))))) else (some (.inr (.inl (l1955, l1960, l1964))))
noncomputable def column_ReadTexts_1_b1 (a1 : (List (List UInt8))) (l1026 : (List Int)) (l1031 : (List (List UInt8))) : Option ((S106 × (List (List UInt8))) ⊕ (S106 × (List (List UInt8)))) :=
  chk (0 ≤ (l1031.length : Int) ∧ (1 : Int) * (l1031.length : Int) ≤ 140737488355328) ((column_ints (⟨l1026⟩ : S106)).bind fun y1580 => (sum_ y1580 (fun y1580 => ((loop (fun s => column_ReadTexts_1_l1 l1031 y1580 s.1 s.2.1 s.2.2.1 s.2.2.2) (y1580.2.f0, a1, List.replicate (l1031.length : Int).toNat (false : Bool), 0)).bind fun t => match t with | (.inl t) => column_ReadTexts_1_x1_2 t.1 t.2.1 t.2.2 | (.inr t) => some t)) (fun y1580 => (some (.inr (y1580, a1))))))
noncomputable def column_ReadTexts_1_x2_0 (a1 : (List (List UInt8))) (l2331 : (List Int)) (l2336 : (List (List UInt8))) : Option ((S106 × (List (List UInt8))) ⊕ (S106 × (List (List UInt8)))) :=
  column_ReadTexts_1_b1 a1 l2331 l2336
noncomputable def column_ReadTexts_1_j2 (l2234 : (List (List UInt8))) (x2238 : Int) (y2347 : ((List UInt8) × S106)) (l2384 : (List Int)) : Option (((List Int) × (List (List UInt8)) × Int) ⊕ (((List Int) × (List (List UInt8))) ⊕ ((S106 × (List (List UInt8))) ⊕ (S106 × (List (List UInt8)))))) :=
  chk (l2234.length + [y2347.1].length ≤ 140737488355328 / 16) (ltt (IntKind.u64.wrap (x2238 + 1)) fun x2394 => (some (.inl (l2384, l2234 ++ [y2347.1], x2394))))
noncomputable def column_ReadTexts_1_l2 (a1 : (List (List UInt8))) (y721 : (Int × S106)) (l2229 : (List Int)) (l2234 : (List (List UInt8))) (x2238 : Int) : Option (((List Int) × (List (List UInt8)) × Int) ⊕ (((List Int) × (List (List UInt8))) ⊕ ((S106 × (List (List UInt8))) ⊕ (S106 × (List (List UInt8)))))) :=
  if (decide (x2238 < y721.1)) = true then ((column_Reader_Text (⟨l2229⟩ : S106) 32).bind fun y2347 => (sum_ y2347 (fun y2347 => (if ((l2234.length : Int) == 0) = true then ((column_Reader_Check y2347.2 true).bind fun y2397 => (sum_ y2397 (fun y2397 => (column_ReadTexts_1_j2 l2234 x2238 y2347 y2397.f0)) (fun y2397 => (some (.inr (.inr (.inr (y2397, a1)))))))) else (ltt (IntKind.i64.wrap ((l2234.length : Int) - 1)) fun x2407 => ((at_ l2234 x2407).bind fun x2409 => ((column_Reader_Check y2347.2 (Op.bytesLess x2409 y2347.1)).bind fun y2412 => (sum_ y2412 (fun y2412 => (column_ReadTexts_1_j2 l2234 x2238 y2347 y2412.f0)) (fun y2412 => (some (.inr (.inr (.inr (y2412, a1)))))))))))) (fun y2347 => (some (.inr (.inr (.inr (y2347, a1)))))))) else (some (.inr (.inl (l2229, l2234))))
noncomputable def column_ReadTexts_1 (a0 : S106) (a1 : (List (List UInt8))) : Option ((S106 × (List (List UInt8))) ⊕ (S106 × (List (List UInt8)))) :=
  (column_Reader_Uint a0 4096).bind fun y721 => (sum_ y721 (fun y721 => ((loop (fun s => column_ReadTexts_1_l2 a1 y721 s.1 s.2.1 s.2.2) (y721.2.f0, [], 0)).bind fun t => match t with | (.inl t) => column_ReadTexts_1_x2_0 a1 t.1 t.2 | (.inr t) => some t)) (fun y721 => (some (.inr (y721, a1)))))
noncomputable def Try_column_ReadTexts_1 (a0 : (List Int)) (a60 : (List (List UInt8))) : Option (Bool × (List (List UInt8))) :=
  (column_ReadTexts_1 (⟨a0⟩ : S106) a60).bind fun y => (sum_ y (fun y => some ((((y.1.f0.length : Int) == 0), y.2))) (fun y => some ((false, y.2))))
noncomputable def column_ReadTexts (a0 : (List Int)) : Option ((List (List UInt8)) × Int) :=
  (Try_column_ReadTexts_1 a0 []).bind fun y105 => (if (!y105.1) = true then (some ([], 3)) else (some (y105.2, 0)))
end Go.Proofs.YteodeedejjcmgaaDoor.M
namespace Go.Proofs.YteodeedejjcmgaaDoor.M
open Go Go.RowKit Go.Proofs.YteodeedejjcmgaaDoor.E
set_option linter.unusedVariables false
set_option maxRecDepth 100000
set_option maxHeartbeats 4000000
set_option linter.unusedSimpArgs false
theorem F_slices_Index_bool_bool {r : World} {L : List HP} {w : World} (a0 : (List Bool)) (a1 : Bool) (A0 : Option Addr) (n0 : Nat) (c0 : Nat) {y : (Int)} (hF : slices_Index_bool_bool a0 a1 = some y) (ha0 : RdL L kB A0 n0 c0 a0) (hS : SH r (L) w) :
  Ret Tryd.prog 94 #[.slice A0 n0 c0, .bool a1] w fun v w' => v = .int .i64 y ∧ SH r (L) w' := by
 refine enter Tryd.func94 rfl Tryd.ntmps94 [(0, .slice A0 n0 c0), (1, .bool a1)] rfl (by simp) ?_
 intro ac hA Qf hQ hQn
 unfold slices_Index_bool_bool at hF
 refine ws fun K101 hK101 => ?_
 refine x_m hA rfl fun ac hA => ?_
 refine wn (hK101 _ _ ?_)
 refine wp_seq_k fun K102 hK102 => ?_
 refine ws fun K198 hK198 => ?_
 refine x_m hA rfl fun ac hA => ?_
 refine x_len Tryd.underlying133 (hS.rdl 0 ha0 rfl).2.1 hA (fun ac hA => ?_) rfl rfl rfl rfl rfl
 refine x_m hA rfl fun ac hA => ?_
 refine wn (hK198 _ _ ?_)
 refine wp_block_k fun Kx199 hKx199 => ?_
 have hb1 : slices_Index_bool_bool_b1 = some y → ∀ (ac : Act) (w : World), FR 19 [] ac [] → SH r (L) w → Kx199 ac w := by
  intro hF ac w hA hS
  unfold slices_Index_bool_bool_b1 at hF
  refine hKx199 _ _ ?_
  refine hK102 _ _ ?_
  refine ws fun K246 hK246 => ?_
  refine x_m hA rfl fun ac hA => ?_
  refine wn (hK246 _ _ ?_)
  refine wp_ret ?_
  cases hF
  refine hQ _ _ ?_
  refine lv Tryd.results94 hA rfl ?_
  exact ⟨rfl, hS⟩
 obtain ⟨t277, hl277, hF⟩ := bnd hF
 have hR277 := hF
 have hx277_0 : (.inl ()) = t277 → ∀ (ac : Act) (w : World), FR 19 [] ac [] → SH r (L) w → Kx199 ac w := by
  intro ht ac w hA hS
  subst ht
  replace hF : slices_Index_bool_bool_x1_0 = some y := hF
  unfold slices_Index_bool_bool_x1_0 at hF
  exact hb1 hF ac w (hA.sub _ rfl) hS
 refine wp_loop_fn hl277 (fun s ac w => FR 19 [] ac [(0, .slice A0 n0 c0), (1, .bool a1), (7, .int .i64 (a0.length : Int)), (8, .int .i64 s)] ∧ SH r (L) w) ⟨hA.sub _ rfl, hS⟩ ?_
 intro N277 s277 o277 hF N277_ T277_ ac w hLab
 obtain ⟨x262, rfl⟩ : ∃ q, q = s277 := ⟨_, rfl⟩
 replace hF : slices_Index_bool_bool_l1 a0 a1 x262 = some o277 := hF
 unfold slices_Index_bool_bool_l1 at hF
 try dsimp only at hLab
 obtain ⟨hA, hS⟩ := hLab
 refine ws fun K279 hK279 => ?_
 refine x_v hA (r_ltI rfl (hA.ev rfl) (hA.ev rfl)) rfl fun ac hA => ?_
 refine wn (hK279 _ _ ?_)
 refine wp_seq_k fun K280 hK280 => ?_
 refine c_if hA rfl (fun hb281 => ?_) fun hb281 => ?_
 ·replace hF := ift hb281 hF
  refine wp_skip ?_
  refine hK280 _ _ ?_
  refine wp_seq_k fun K282 hK282 => ?_
  refine wp_block_k fun Kx283 hKx283 => ?_
  refine ws fun K284 hK284 => ?_
  refine x_m hA rfl fun ac hA => ?_
  refine x_m hA rfl fun ac hA => ?_
  refine wn (hK284 _ _ ?_)
  refine ws fun K285 hK285 => ?_
  refine x_m hA rfl fun ac hA => ?_
  refine x_m hA rfl fun ac hA => ?_
  refine x_m hA rfl fun ac hA => ?_
  obtain ⟨x286, h287, hF⟩ := bnd hF
  refine x_ia Tryd.underlying133 sz4 (hS.rdl 0 ha0 rfl) h287 hA (fun ac hA => ?_) rfl rfl rfl rfl rfl rfl
  obtain ⟨cs, hV, hc288⟩ := el (hS.rdl 0 ha0 rfl) h287
  obtain rfl := hV
  refine x_ld Tryd.underlying4 (hc288 0 _ rfl) hA (fun ac hA => ?_) rfl rfl rfl rfl rfl rfl
  refine x_v hA (r_eqB Tryd.underlying4 rfl (hA.ev rfl) (hA.ev rfl)) rfl fun ac hA => ?_
  refine wn (hK285 _ _ ?_)
  refine c_if hA rfl (fun hb289 => ?_) fun hb289 => ?_
  ·replace hF := ift hb289 hF
   refine ws fun K290 hK290 => ?_
   refine x_m hA rfl fun ac hA => ?_
   refine x_m hA rfl fun ac hA => ?_
   refine wn (hK290 _ _ ?_)
   refine wp_ret ?_
   cases hF
   have ht := T277_ _ rfl
   subst ht
   replace hF := hR277
   replace hF : some x262 = some y := hF
   cases hF
   refine hQ _ _ ?_
   refine lv Tryd.results94 hA rfl ?_
   exact ⟨rfl, hS⟩
  replace hF := iff' hb289 hF
  refine wp_skip ?_
  refine hKx283 _ _ ?_
  refine hK282 _ _ ?_
  refine wp_reg ?_
  obtain ⟨x291, h292, hF⟩ := ltt_ hF
  refine x_v (v := .int .i64 x291) hA (rv_i h292 (r_add rfl (hA.ev rfl) (hA.ev rfl))) rfl fun ac hA => ?_
  refine x_m hA rfl fun ac hA => ?_
  refine wpList_nil ?_
  cases hF
  exact ⟨_, N277_ _ rfl, hA.sub _ rfl, hS⟩
 replace hF := iff' hb281 hF
 refine wp_exit ?_
 cases hF
 exact hx277_0 (T277_ _ rfl) ac w (hA.sub _ rfl) hS
theorem F_slices_Contains_bool_bool {r : World} {L : List HP} {w : World} (a0 : (List Bool)) (a1 : Bool) (A0 : Option Addr) (n0 : Nat) (c0 : Nat) {y : (Bool)} (hF : slices_Contains_bool_bool a0 a1 = some y) (ha0 : RdL L kB A0 n0 c0 a0) (hS : SH r (L) w) :
  Ret Tryd.prog 80 #[.slice A0 n0 c0, .bool a1] w fun v w' => v = .bool y ∧ SH r (L) w' := by
 refine enter Tryd.func80 rfl Tryd.ntmps80 [(0, .slice A0 n0 c0), (1, .bool a1)] rfl (by simp) ?_
 intro ac hA Qf hQ hQn
 unfold slices_Contains_bool_bool at hF
 refine ws fun K101 hK101 => ?_
 refine x_m hA rfl fun ac hA => ?_
 refine wn (hK101 _ _ ?_)
 refine ws fun K102 hK102 => ?_
 refine x_m hA rfl fun ac hA => ?_
 refine x_m hA rfl fun ac hA => ?_
 obtain ⟨y103, h104, hF⟩ := bnd hF
 refine x_call en94 hA (F_slices_Index_bool_bool (L := L) a0 a1 A0 n0 c0 h104 (RdL.sfx 0 rfl ha0) hS) (fun v ac w hR hA => ?_) rfl rfl rfl rfl rfl
 obtain ⟨rfl, hS⟩ := hR
 refine x_v hA (r_geI rfl (hA.ev rfl) (hA.ev rfl)) rfl fun ac hA => ?_
 refine x_m hA rfl fun ac hA => ?_
 refine wn (hK102 _ _ ?_)
 refine wp_ret ?_
 cases hF
 refine hQ _ _ ?_
 refine lv Tryd.results80 hA rfl ?_
 exact ⟨rfl, hS⟩
theorem F_column_ReadTexts_1 {r : World} {L : List HP} {w : World} {Z : Nat → Prop} {wz : World} (a0 : S106) (a1 : (List (List UInt8))) (g0 : Nat) (g1 : Nat) {y : ((S106 × (List (List UInt8))) ⊕ (S106 × (List (List UInt8))))} (hF : column_ReadTexts_1 a0 a1 = some y) (qz : Nat) (hZ : L[qz]? = some (zone Z wz)) (hS : SH r (obj106 Z wz g0 a0 :: obj91 g1 a1 :: L) w) :
  RetS Tryd.prog 79 #[.pointer (some ⟨g0, 0, none⟩), .pointer (some ⟨g1, 0, none⟩)] w badC y (fun y v w' => v = .tuple #[] ∧ SH r (obj106 Z wz g0 y.1 :: obj91 g1 y.2 :: L) w') (fun y w' => SH r (obj106 Z wz g0 y.1 :: obj91 g1 y.2 :: L) w') := by
 refine enterS Tryd.func79 rfl Tryd.ntmps79 [(0, .pointer (some ⟨g0, 0, none⟩)), (1, .pointer (some ⟨g1, 0, none⟩))] rfl (by simp) ?_
 intro ac hA Qf hQ hQn hQp
 unfold column_ReadTexts_1 at hF
 obtain ⟨A101, n102, c103, hS⟩ := obj106_open hS
 replace hS := hS.pk 1
 have hQ0 := SH.unpure hS
 clear hS
 obtain ⟨h104, hS⟩ := hQ0
 replace hS := hS.pk 1
 obtain ⟨A105, n106, c107, hS⟩ := obj91_open hS
 refine ws fun K108 hK108 => ?_
 refine x_m hA rfl fun ac hA => ?_
 refine wn (hK108 _ _ ?_)
 refine wp_seq_k fun K109 hK109 => ?_
 refine ws fun K720 hK720 => ?_
 refine x_m hA rfl fun ac hA => ?_
 replace hS := SH.pure_ h104 hS
 replace hS := hS.pk 3
 replace hS := obj106_mk (x := a0) hS
 obtain ⟨y721, h722, hF⟩ := bnd hF
 rcases y721 with y721 | y721
 rotate_left
 ·replace hF := sum_r hF
  refine x_callp (vs := #[.pointer (some ⟨g0, 0, none⟩), .int .u64 4096]) en58 hA (RetS.rf (F_column_Reader_Uint (L := blk g1 91 [.slice A105 n106 c107] :: own kS 9 A105 n106 c107 a1 :: L) a0 4096 g0 h722 (qz + 2) hZ hS)) (fun w hR => ?_) rfl rfl rfl rfl rfl
  replace hS := hR
  obtain ⟨A723, n724, c725, hS⟩ := obj106_open hS
  replace hS := hS.pk 1
  have hQ0 := SH.unpure hS
  clear hS
  obtain ⟨h726, hS⟩ := hQ0
  replace hS := SH.pure_ h726 hS
  replace hS := hS.pk 1
  replace hS := obj106_mk (x := y721) hS
  replace hS := hS.pk 2
  replace hS := hS.pk 2
  replace hS := obj91_mk (x := a1) hS
  replace hS := hS.pk 1
  cases hF
  exact hQp _ rfl _ _ hA.defers hS
 replace hF := sum_l hF
 refine x_callw (vs := #[.pointer (some ⟨g0, 0, none⟩), .int .u64 4096]) en58 hA (RetS.lf (F_column_Reader_Uint (L := blk g1 91 [.slice A105 n106 c107] :: own kS 9 A105 n106 c107 a1 :: L) a0 4096 g0 h722 (qz + 2) hZ hS)) (fun v ac w hR hA => ?_) rfl rfl rfl rfl rfl rfl rfl
 obtain ⟨rfl, hS⟩ := hR
 obtain ⟨A727, n728, c729, hS⟩ := obj106_open hS
 replace hS := hS.pk 1
 have hQ0 := SH.unpure hS
 clear hS
 obtain ⟨h730, hS⟩ := hQ0
 refine x_m hA rfl fun ac hA => ?_
 refine wn (hK720 _ _ ?_)
 refine wp_block_k fun Kx731 hKx731 => ?_
 have hb1 : ∀ (l1026 : (List Int)) (l1031 : (List (List UInt8))), column_ReadTexts_1_b1 a1 l1026 l1031 = some y → ∀ (A1027 : Option Addr) (n1028 : Nat) (c1029 : Nat) (A1032 : Option Addr) (n1033 : Nat) (c1034 : Nat) (h1030 : Imm Z wz (kI .u8) A1027 n1028 c1029 l1026) (ac : Act) (w : World), FR 70 [] ac [(0, .pointer (some ⟨g0, 0, none⟩)), (1, .pointer (some ⟨g1, 0, none⟩)), (3, .slice A1032 n1033 c1034)] → SH r (blk g0 106 [.slice A1027 n1028 c1029] :: blk g1 91 [.slice A105 n106 c107] :: own kS 9 A105 n106 c107 a1 :: own kS 9 A1032 n1033 c1034 l1031 :: L) w → Kx731 ac w := by
  intro l1026 l1031 hF A1027 n1028 c1029 A1032 n1033 c1034 h1030 ac w hA hS
  unfold column_ReadTexts_1_b1 at hF
  refine hKx731 _ _ ?_
  refine hK109 _ _ ?_
  refine ws fun K1035 hK1035 => ?_
  refine x_m hA rfl fun ac hA => ?_
  refine x_len Tryd.underlying91 (hS.rd 3 rfl).2.1 hA (fun ac hA => ?_) rfl rfl rfl rfl rfl
  obtain ⟨h1036, hF⟩ := chk_some hF
  refine x_mks (d := kB) (bytes := 1) false inf4 rfl Tryd.underlying133 h1036 hA hS (fun g1037 ac w hS hA => ?_) rfl rfl rfl rfl rfl rfl
  refine x_m hA rfl fun ac hA => ?_
  refine wn (hK1035 _ _ ?_)
  refine wp_seq_k fun K1038 hK1038 => ?_
  refine ws fun K1579 hK1579 => ?_
  refine x_m hA rfl fun ac hA => ?_
  replace hS := SH.pure_ h1030 hS
  replace hS := hS.pk 2
  replace hS := obj106_mk (x := (⟨l1026⟩ : S106)) hS
  obtain ⟨y1580, h1581, hF⟩ := bnd hF
  rcases y1580 with y1580 | y1580
  rotate_left
  ·replace hF := sum_r hF
   refine x_callp (vs := #[.pointer (some ⟨g0, 0, none⟩)]) en78 hA (RetS.rf (F_column_ints (L := own kB 4 (some ⟨g1037, 0, none⟩) ((l1031.length : Int).toNat) ((l1031.length : Int).toNat) (List.replicate (l1031.length : Int).toNat (false : Bool)) :: blk g1 91 [.slice A105 n106 c107] :: own kS 9 A105 n106 c107 a1 :: own kS 9 A1032 n1033 c1034 l1031 :: L) (⟨l1026⟩ : S106) g0 h1581 (qz + 4) hZ hS)) (fun w hR => ?_) rfl rfl rfl rfl rfl
   replace hS := hR
   obtain ⟨A1582, n1583, c1584, hS⟩ := obj106_open hS
   replace hS := hS.pk 1
   have hQ0 := SH.unpure hS
   clear hS
   obtain ⟨h1585, hS⟩ := hQ0
   replace hS := SH.pure_ h1585 hS
   replace hS := hS.pk 1
   replace hS := obj106_mk (x := y1580) hS
   replace hS := hS.pk 3
   replace hS := hS.pk 3
   replace hS := obj91_mk (x := a1) hS
   replace hS := hS.drop 2
   replace hS := hS.drop 2
   replace hS := hS.pk 1
   cases hF
   exact hQp _ rfl _ _ hA.defers hS
  replace hF := sum_l hF
  refine x_callw (vs := #[.pointer (some ⟨g0, 0, none⟩)]) en78 hA (RetS.lf (F_column_ints (L := own kB 4 (some ⟨g1037, 0, none⟩) ((l1031.length : Int).toNat) ((l1031.length : Int).toNat) (List.replicate (l1031.length : Int).toNat (false : Bool)) :: blk g1 91 [.slice A105 n106 c107] :: own kS 9 A105 n106 c107 a1 :: own kS 9 A1032 n1033 c1034 l1031 :: L) (⟨l1026⟩ : S106) g0 h1581 (qz + 4) hZ hS)) (fun v ac w hR hA => ?_) rfl rfl rfl rfl rfl rfl rfl
  obtain ⟨B1586, m1587, d1588, rfl, hS⟩ := hR
  replace hS := hS.pk 1
  obtain ⟨A1589, n1590, c1591, hS⟩ := obj106_open hS
  replace hS := hS.pk 1
  have hQ0 := SH.unpure hS
  clear hS
  obtain ⟨h1592, hS⟩ := hQ0
  refine x_len Tryd.underlying90 (hS.rd 1 rfl).2.1 hA (fun ac hA => ?_) rfl rfl rfl rfl rfl
  refine x_m hA rfl fun ac hA => ?_
  refine wn (hK1579 _ _ ?_)
  refine wp_block_k fun Kx1593 hKx1593 => ?_
  have hb2 : ∀ (l1851 : (List Int)) (l1856 : (List (List UInt8))) (l1860 : (List Bool)), column_ReadTexts_1_b2 l1851 l1856 l1860 = some y → ∀ (A1852 : Option Addr) (n1853 : Nat) (c1854 : Nat) (A1857 : Option Addr) (n1858 : Nat) (c1859 : Nat) (h1855 : Imm Z wz (kI .u8) A1852 n1853 c1854 l1851) (ac : Act) (w : World), FR 70 [] ac [(0, .pointer (some ⟨g0, 0, none⟩)), (1, .pointer (some ⟨g1, 0, none⟩)), (5, .slice (some ⟨g1037, 0, none⟩) ((l1031.length : Int).toNat) ((l1031.length : Int).toNat))] → SH r (blk g0 106 [.slice A1852 n1853 c1854] :: blk g1 91 [.slice A1857 n1858 c1859] :: own kS 9 A1857 n1858 c1859 l1856 :: own kB 4 (some ⟨g1037, 0, none⟩) ((l1031.length : Int).toNat) ((l1031.length : Int).toNat) l1860 :: L) w → Kx1593 ac w := by
   intro l1851 l1856 l1860 hF A1852 n1853 c1854 A1857 n1858 c1859 h1855 ac w hA hS
   unfold column_ReadTexts_1_b2 at hF
   refine hKx1593 _ _ ?_
   refine hK1038 _ _ ?_
   refine wp_reg ?_
   refine x_m hA rfl fun ac hA => ?_
   refine x_m hA rfl fun ac hA => ?_
   obtain ⟨y1861, h1862, hF⟩ := bnd hF
   refine x_call en80 hA (F_slices_Contains_bool_bool (L := blk g0 106 [.slice A1852 n1853 c1854] :: blk g1 91 [.slice A1857 n1858 c1859] :: own kS 9 A1857 n1858 c1859 l1856 :: own kB 4 (some ⟨g1037, 0, none⟩) ((l1031.length : Int).toNat) ((l1031.length : Int).toNat) l1860 :: L) l1860 false (some ⟨g1037, 0, none⟩) ((l1031.length : Int).toNat) ((l1031.length : Int).toNat) h1862 (RdL.own 3 rfl (hS.dropN 0)) hS) (fun v ac w hR hA => ?_) rfl rfl rfl rfl rfl
   obtain ⟨rfl, hS⟩ := hR
   refine x_v hA (r_not rfl (hA.ev rfl)) rfl fun ac hA => ?_
   replace hS := SH.pure_ h1855 hS
   replace hS := hS.pk 1
   replace hS := obj106_mk (x := (⟨l1851⟩ : S106)) hS
   obtain ⟨y1863, h1864, hF⟩ := bnd hF
   rcases y1863 with y1863 | y1863
   rotate_left
   ·replace hF := sum_r hF
    refine x_callp (vs := #[.pointer (some ⟨g0, 0, none⟩), .bool (!y1861)]) en59 hA (RetS.rf (F_column_Reader_Check (L := blk g1 91 [.slice A1857 n1858 c1859] :: own kS 9 A1857 n1858 c1859 l1856 :: own kB 4 (some ⟨g1037, 0, none⟩) ((l1031.length : Int).toNat) ((l1031.length : Int).toNat) l1860 :: L) (⟨l1851⟩ : S106) (!y1861) g0 h1864 (qz + 3) hZ hS)) (fun w hR => ?_) rfl rfl rfl rfl rfl
    replace hS := hR
    obtain ⟨A1865, n1866, c1867, hS⟩ := obj106_open hS
    replace hS := hS.pk 1
    have hQ0 := SH.unpure hS
    clear hS
    obtain ⟨h1868, hS⟩ := hQ0
    replace hS := SH.pure_ h1868 hS
    replace hS := hS.pk 1
    replace hS := obj106_mk (x := y1863) hS
    replace hS := hS.pk 2
    replace hS := hS.pk 2
    replace hS := obj91_mk (x := l1856) hS
    replace hS := hS.drop 2
    replace hS := hS.pk 1
    cases hF
    exact hQp _ rfl _ _ hA.defers hS
   replace hF := sum_l hF
   refine x_callw (vs := #[.pointer (some ⟨g0, 0, none⟩), .bool (!y1861)]) en59 hA (RetS.lf (F_column_Reader_Check (L := blk g1 91 [.slice A1857 n1858 c1859] :: own kS 9 A1857 n1858 c1859 l1856 :: own kB 4 (some ⟨g1037, 0, none⟩) ((l1031.length : Int).toNat) ((l1031.length : Int).toNat) l1860 :: L) (⟨l1851⟩ : S106) (!y1861) g0 h1864 (qz + 3) hZ hS)) (fun v ac w hR hA => ?_) rfl rfl rfl rfl rfl rfl rfl
   obtain ⟨rfl, hS⟩ := hR
   obtain ⟨A1869, n1870, c1871, hS⟩ := obj106_open hS
   replace hS := hS.pk 1
   have hQ0 := SH.unpure hS
   clear hS
   obtain ⟨h1872, hS⟩ := hQ0
   refine wpList_nil ?_
   replace hS := SH.pure_ h1872 hS
   replace hS := hS.pk 1
   replace hS := obj106_mk (x := y1863) hS
   replace hS := hS.pk 2
   replace hS := hS.pk 2
   replace hS := obj91_mk (x := l1856) hS
   replace hS := hS.drop 2
   replace hS := hS.pk 1
   cases hF
   refine hQn _ rfl _ _ ?_
   refine lv0n Tryd.results79 hA ?_
   exact ⟨rfl, hS⟩
  obtain ⟨t2057, hl2057, hF⟩ := bnd hF
  have hR2057 := hF
  have hx2057_2 : ∀ (l2048 : (List Int)) (l2053 : (List (List UInt8))) (l2057 : (List Bool)), (.inl (l2048, l2053, l2057)) = t2057 → ∀ (A2049 : Option Addr) (n2050 : Nat) (c2051 : Nat) (A2054 : Option Addr) (n2055 : Nat) (c2056 : Nat) (h2052 : Imm Z wz (kI .u8) A2049 n2050 c2051 l2048) (ac : Act) (w : World), FR 70 [] ac [(0, .pointer (some ⟨g0, 0, none⟩)), (1, .pointer (some ⟨g1, 0, none⟩)), (5, .slice (some ⟨g1037, 0, none⟩) ((l1031.length : Int).toNat) ((l1031.length : Int).toNat))] → SH r (blk g0 106 [.slice A2049 n2050 c2051] :: blk g1 91 [.slice A2054 n2055 c2056] :: own kS 9 A2054 n2055 c2056 l2053 :: own kB 4 (some ⟨g1037, 0, none⟩) ((l1031.length : Int).toNat) ((l1031.length : Int).toNat) l2057 :: L) w → Kx1593 ac w := by
   intro l2048 l2053 l2057 ht A2049 n2050 c2051 A2054 n2055 c2056 h2052 ac w hA hS
   subst ht
   replace hF : column_ReadTexts_1_x1_2 l2048 l2053 l2057 = some y := hF
   unfold column_ReadTexts_1_x1_2 at hF
   exact hb2 l2048 l2053 l2057 hF A2049 n2050 c2051 A2054 n2055 c2056 h2052 ac w (hA.sub _ rfl) hS
  replace hS := hS.pk 1
  replace hS := hS.pk 2
  replace hS := hS.pk 5
  replace hS := hS.pk 5
  replace hS := hS.pk 5
  replace hS := hS.pk 5
  refine wp_loop_fn hl2057 (fun s ac w => ∃ (A1956 : Option Addr) (n1957 : Nat) (c1958 : Nat) (A1961 : Option Addr) (n1962 : Nat) (c1963 : Nat), Imm Z wz (kI .u8) A1956 n1957 c1958 s.1 ∧ FR 70 [] ac [(0, .pointer (some ⟨g0, 0, none⟩)), (1, .pointer (some ⟨g1, 0, none⟩)), (3, .slice A1032 n1033 c1034), (5, .slice (some ⟨g1037, 0, none⟩) ((l1031.length : Int).toNat) ((l1031.length : Int).toNat)), (38, .slice B1586 m1587 d1588), (39, .int .i64 (y1580.1.length : Int)), (40, .int .i64 s.2.2.2)] ∧ SH r (blk g0 106 [.slice A1956 n1957 c1958] :: blk g1 91 [.slice A1961 n1962 c1963] :: own kS 9 A1961 n1962 c1963 s.2.1 :: own kS 9 A1032 n1033 c1034 l1031 :: own kB 4 (some ⟨g1037, 0, none⟩) ((l1031.length : Int).toNat) ((l1031.length : Int).toNat) s.2.2.1 :: own (kI .i64) 2 B1586 m1587 d1588 y1580.1 :: L) w) ⟨A1589, n1590, c1591, A105, n106, c107, h1592, hA.sub _ rfl, hS⟩ ?_
  intro N2057 s2057 o2057 hF N2057_ T2057_ ac w hLab
  obtain ⟨l1955, l1960, l1964, x1965⟩ := s2057
  replace hF : column_ReadTexts_1_l1 l1031 y1580 l1955 l1960 l1964 x1965 = some o2057 := hF
  unfold column_ReadTexts_1_l1 at hF
  try dsimp only at hLab
  obtain ⟨A1956, n1957, c1958, A1961, n1962, c1963, h1959, hA, hS⟩ := hLab
  refine ws fun K2059 hK2059 => ?_
  refine x_v hA (r_ltI rfl (hA.ev rfl) (hA.ev rfl)) rfl fun ac hA => ?_
  refine wn (hK2059 _ _ ?_)
  refine wp_seq_k fun K2060 hK2060 => ?_
  refine c_if hA rfl (fun hb2061 => ?_) fun hb2061 => ?_
  ·replace hF := ift hb2061 hF
   refine wp_skip ?_
   refine hK2060 _ _ ?_
   refine wp_seq_k fun K2062 hK2062 => ?_
   refine wp_block_k fun Kx2063 hKx2063 => ?_
   refine ws fun K2064 hK2064 => ?_
   obtain ⟨x2065, h2066, hF⟩ := bnd hF
   refine x_ia Tryd.underlying90 sz2 (hS.rd 5 rfl) h2066 hA (fun ac hA => ?_) rfl rfl rfl rfl rfl rfl
   obtain ⟨cs, hV, hc2067⟩ := el (hS.rd 5 rfl) h2066
   obtain rfl := hV
   refine x_ld Tryd.underlying2 (hc2067 0 _ rfl) hA (fun ac hA => ?_) rfl rfl rfl rfl rfl rfl
   refine x_m hA rfl fun ac hA => ?_
   refine wn (hK2064 _ _ ?_)
   refine wp_seq_k fun K2068 hK2068 => ?_
   have hj1 : ∀ (l2090 : (List Int)), column_ReadTexts_1_j1 l1031 l1960 l1964 x1965 x2065 l2090 = some o2057 → ∀ (A2091 : Option Addr) (n2092 : Nat) (c2093 : Nat) (h2094 : Imm Z wz (kI .u8) A2091 n2092 c2093 l2090) (ac : Act) (w : World), FR 70 [] ac [(0, .pointer (some ⟨g0, 0, none⟩)), (1, .pointer (some ⟨g1, 0, none⟩)), (3, .slice A1032 n1033 c1034), (5, .slice (some ⟨g1037, 0, none⟩) ((l1031.length : Int).toNat) ((l1031.length : Int).toNat)), (7, .int .i64 x2065), (38, .slice B1586 m1587 d1588), (39, .int .i64 (y1580.1.length : Int)), (40, .int .i64 x1965)] → SH r (blk g0 106 [.slice A2091 n2092 c2093] :: blk g1 91 [.slice A1961 n1962 c1963] :: own kS 9 A1961 n1962 c1963 l1960 :: own kS 9 A1032 n1033 c1034 l1031 :: own kB 4 (some ⟨g1037, 0, none⟩) ((l1031.length : Int).toNat) ((l1031.length : Int).toNat) l1964 :: own (kI .i64) 2 B1586 m1587 d1588 y1580.1 :: L) w → K2068 ac w := by
    intro l2090 hF A2091 n2092 c2093 h2094 ac w hA hS
    unfold column_ReadTexts_1_j1 at hF
    refine hK2068 _ _ ?_
    refine ws fun K2095 hK2095 => ?_
    refine x_m hA rfl fun ac hA => ?_
    refine x_m hA rfl fun ac hA => ?_
    obtain ⟨x2096, h2097, hF⟩ := bnd hF
    refine x_ia Tryd.underlying133 sz4 (hS.rd 4 rfl) h2097 hA (fun ac hA => ?_) rfl rfl rfl rfl rfl rfl
    refine x_sto (z' := true) (off := 0) (vs := [.bool true]) 4 sz4 hA hS rfl (at_some h2097).2.2 (fun c h => by cases h; rfl) (fun  ac w hS hA => ?_) rfl rfl rfl rfl rfl rfl rfl rfl
    refine wn (hK2095 _ _ ?_)
    refine wp_draw [0, 0, 0, 6, 14, 30, 63, 127] [5, 6, 7] rfl hA hS (by kernel_rfl) (by kernel_rfl) (by kernel_rfl) (by kernel_rfl) fun w hS => ?_
    obtain ⟨x2098, h2099, hF⟩ := bnd hF
    obtain ⟨cs, hV, hc2100⟩ := el (hS.rd 4 rfl) h2099
    obtain rfl := hV
    refine ⟨[(0, .slice A1961 n1962 c1963), (1, .slice A1032 n1033 c1034), (2, .int .i64 x2065), (3, .pointer (some (ea A1032 (x2065.toNat * 1)))), (4, str x2098)], ?_⟩
    refine dEff [0, 1, 2, 3, 4] [5] (by kernel_rfl) ⟨pu rfl rfl [(1, .pointer (some ⟨g1, 0, none⟩))] (fun ac hA => y_ld Tryd.underlying91 (hS.cell 2 rfl 0 _ rfl) hA rfl rfl rfl) rfl rfl, pu rfl rfl [(3, .slice A1032 n1033 c1034)] (fun ac hA => y_move hA rfl rfl) rfl rfl, pu rfl rfl [(7, .int .i64 x2065)] (fun ac hA => y_move hA rfl rfl) rfl rfl, pu rfl rfl [(58, .slice A1032 n1033 c1034), (59, .int .i64 x2065)] (fun ac hA => y_ia Tryd.underlying91 sz9 (hS.rd 4 rfl) h2099 hA rfl rfl rfl) rfl rfl, pu rfl rfl [(60, .pointer (some (ea A1032 (x2065.toNat * 1))))] (fun ac hA => y_ld Tryd.underlying9 (hc2100 0 _ rfl) hA rfl rfl rfl) rfl rfl, trivial⟩ (by kernel_rfl) (by kernel_rfl) ⟨ef rfl [(61, str x2098)] (fun ac hA K hK => ?_) rfl rfl, trivial⟩
    refine z_bsl (d := kS) (e := 9) (ps := #[(0, str x2098)]) (cells := [str x2098]) (xs := [x2098]) (fun w => by kernel_rfl) rfl ⟨[str x2098], _, rfl, rfl, rfl⟩ hA hS (fun g2101 w hS => ?_) rfl rfl rfl
    refine hK _ [] _ rfl ?_
    refine dEff [0] [6] (by kernel_rfl) ⟨pu rfl rfl [(1, .pointer (some ⟨g1, 0, none⟩))] (fun ac hA => y_ld Tryd.underlying91 (hS.cell 3 rfl 0 _ rfl) hA rfl rfl rfl) rfl rfl, trivial⟩ (by kernel_rfl) (by kernel_rfl) ⟨ef rfl [(57, .slice A1961 n1962 c1963), (62, .slice (some ⟨g2101, 0, none⟩) 1 1)] (fun ac hA K hK => ?_) rfl rfl, trivial⟩
    obtain ⟨h2102, hF⟩ := chk_some hF
    have hr := hS.rd 0 rfl
    refine z_app 4 inf9 Tryd.underlying91 hA hS hr.1 hr.2.1 h2102 rfl (fun A2103 n2104 c2105 w hS => ?_) rfl rfl rfl rfl rfl rfl
    refine hK _ [] _ rfl ?_
    refine dEff [] [7] (by kernel_rfl) trivial (by kernel_rfl) (by kernel_rfl) ⟨ef rfl [(1, .pointer (some ⟨g1, 0, none⟩)), (63, .slice A2103 n2104 c2105)] (fun ac hA K hK => ?_) rfl rfl, trivial⟩
    refine z_stb 4 sz91 hA hS rfl (fun  w hS => ?_) rfl rfl rfl rfl rfl rfl
    refine hK _ [] _ rfl ?_
    refine dEnd [] (by kernel_rfl) trivial ⟨by kernel_rfl, by kernel_rfl⟩ [(0, .pointer (some ⟨g0, 0, none⟩)), (1, .pointer (some ⟨g1, 0, none⟩)), (3, .slice A1032 n1033 c1034), (5, .slice (some ⟨g1037, 0, none⟩) ((l1031.length : Int).toNat) ((l1031.length : Int).toNat)), (38, .slice B1586 m1587 d1588), (39, .int .i64 (y1580.1.length : Int)), (40, .int .i64 x1965)] rfl (fun ac hA => ?_)
    refine hKx2063 _ _ ?_
    refine hK2062 _ _ ?_
    refine wp_reg ?_
    obtain ⟨x2106, h2107, hF⟩ := ltt_ hF
    refine x_v (v := .int .i64 x2106) hA (rv_i h2107 (r_add rfl (hA.ev rfl) (hA.ev rfl))) rfl fun ac hA => ?_
    refine x_m hA rfl fun ac hA => ?_
    refine wpList_nil ?_
    replace hS := hS.drop 2
    replace hS := hS.pk 5
    replace hS := hS.pk 3
    replace hS := hS.pk 5
    replace hS := hS.pk 4
    replace hS := hS.pk 4
    replace hS := hS.pk 5
    cases hF
    exact ⟨_, N2057_ _ rfl, A2091, n2092, c2093, A2103, n2104, c2105, h2094, hA.sub _ rfl, hS⟩
   refine wp_reg ?_
   refine x_m hA rfl fun ac hA => ?_
   refine x_m hA rfl fun ac hA => ?_
   refine x_v hA (r_geI rfl (hA.ev rfl) (hA.ev rfl)) rfl fun ac hA => ?_
   refine x_m hA rfl fun ac hA => ?_
   refine bcase (b := decide (0 ≤ x2065)) (fun hb2108 => ?_) fun hb2108 => ?_
   ·replace hF := ift hb2108 hF
    refine x_on hb2108 hA ?_ rfl rfl rfl
    refine x_m hA rfl fun ac hA => ?_
    refine x_on hb2108 hA ?_ rfl rfl rfl
    refine x_m hA rfl fun ac hA => ?_
    refine x_on hb2108 hA ?_ rfl rfl rfl
    refine x_len Tryd.underlying91 (hS.rd 3 rfl).2.1 hA (fun ac hA => ?_) rfl rfl rfl rfl rfl
    refine x_on hb2108 hA ?_ rfl rfl rfl
    refine x_v hA (r_ltI rfl (hA.ev rfl) (hA.ev rfl)) rfl fun ac hA => ?_
    refine x_pickt hb2108 hA (fun ac hA => ?_) rfl rfl rfl rfl rfl rfl
    replace hS := SH.pure_ h1959 hS
    replace hS := hS.pk 1
    replace hS := obj106_mk (x := (⟨l1955⟩ : S106)) hS
    obtain ⟨y2109, h2110, hF⟩ := bnd hF
    rcases y2109 with y2109 | y2109
    rotate_left
    ·replace hF := sum_r hF
     refine x_callp (vs := #[.pointer (some ⟨g0, 0, none⟩), .bool (decide (x2065 < (l1031.length : Int)))]) en59 hA (RetS.rf (F_column_Reader_Check (L := blk g1 91 [.slice A1961 n1962 c1963] :: own kS 9 A1961 n1962 c1963 l1960 :: own kS 9 A1032 n1033 c1034 l1031 :: own kB 4 (some ⟨g1037, 0, none⟩) ((l1031.length : Int).toNat) ((l1031.length : Int).toNat) l1964 :: own (kI .i64) 2 B1586 m1587 d1588 y1580.1 :: L) (⟨l1955⟩ : S106) (decide (x2065 < (l1031.length : Int))) g0 h2110 (qz + 5) hZ hS)) (fun w hR => ?_) rfl rfl rfl rfl rfl
     replace hS := hR
     obtain ⟨A2111, n2112, c2113, hS⟩ := obj106_open hS
     replace hS := hS.pk 1
     have hQ0 := SH.unpure hS
     clear hS
     obtain ⟨h2114, hS⟩ := hQ0
     replace hS := SH.pure_ h2114 hS
     replace hS := hS.pk 1
     replace hS := obj106_mk (x := y2109) hS
     replace hS := hS.pk 2
     replace hS := hS.pk 2
     replace hS := obj91_mk (x := l1960) hS
     replace hS := hS.drop 2
     replace hS := hS.drop 2
     replace hS := hS.drop 2
     replace hS := hS.pk 1
     cases hF
     have ht := T2057_ _ rfl
     subst ht
     replace hF := hR2057
     replace hF : some (.inr (y2109, l1960)) = some y := hF
     cases hF
     exact hQp _ rfl _ _ hA.defers hS
    replace hF := sum_l hF
    refine x_callw (vs := #[.pointer (some ⟨g0, 0, none⟩), .bool (decide (x2065 < (l1031.length : Int)))]) en59 hA (RetS.lf (F_column_Reader_Check (L := blk g1 91 [.slice A1961 n1962 c1963] :: own kS 9 A1961 n1962 c1963 l1960 :: own kS 9 A1032 n1033 c1034 l1031 :: own kB 4 (some ⟨g1037, 0, none⟩) ((l1031.length : Int).toNat) ((l1031.length : Int).toNat) l1964 :: own (kI .i64) 2 B1586 m1587 d1588 y1580.1 :: L) (⟨l1955⟩ : S106) (decide (x2065 < (l1031.length : Int))) g0 h2110 (qz + 5) hZ hS)) (fun v ac w hR hA => ?_) rfl rfl rfl rfl rfl rfl rfl
    obtain ⟨rfl, hS⟩ := hR
    obtain ⟨A2115, n2116, c2117, hS⟩ := obj106_open hS
    replace hS := hS.pk 1
    have hQ0 := SH.unpure hS
    clear hS
    obtain ⟨h2118, hS⟩ := hQ0
    refine wpList_nil ?_
    exact hj1 y2109.f0 hF A2115 n2116 c2117 h2118 ac w (hA.sub _ rfl) hS
   replace hF := iff' hb2108 hF
   refine x_off hb2108 hA (fun ac hA => ?_) rfl rfl rfl rfl rfl
   refine x_off hb2108 hA (fun ac hA => ?_) rfl rfl rfl rfl rfl
   refine x_off hb2108 hA (fun ac hA => ?_) rfl rfl rfl rfl rfl
   refine x_off hb2108 hA (fun ac hA => ?_) rfl rfl rfl rfl rfl
   refine x_pickf hb2108 hA (fun ac hA => ?_) rfl rfl rfl rfl rfl rfl
   replace hS := SH.pure_ h1959 hS
   replace hS := hS.pk 1
   replace hS := obj106_mk (x := (⟨l1955⟩ : S106)) hS
   obtain ⟨y2119, h2120, hF⟩ := bnd hF
   rcases y2119 with y2119 | y2119
   rotate_left
   ·replace hF := sum_r hF
    refine x_callp (vs := #[.pointer (some ⟨g0, 0, none⟩), .bool false]) en59 hA (RetS.rf (F_column_Reader_Check (L := blk g1 91 [.slice A1961 n1962 c1963] :: own kS 9 A1961 n1962 c1963 l1960 :: own kS 9 A1032 n1033 c1034 l1031 :: own kB 4 (some ⟨g1037, 0, none⟩) ((l1031.length : Int).toNat) ((l1031.length : Int).toNat) l1964 :: own (kI .i64) 2 B1586 m1587 d1588 y1580.1 :: L) (⟨l1955⟩ : S106) false g0 h2120 (qz + 5) hZ hS)) (fun w hR => ?_) rfl rfl rfl rfl rfl
    replace hS := hR
    obtain ⟨A2121, n2122, c2123, hS⟩ := obj106_open hS
    replace hS := hS.pk 1
    have hQ0 := SH.unpure hS
    clear hS
    obtain ⟨h2124, hS⟩ := hQ0
    replace hS := SH.pure_ h2124 hS
    replace hS := hS.pk 1
    replace hS := obj106_mk (x := y2119) hS
    replace hS := hS.pk 2
    replace hS := hS.pk 2
    replace hS := obj91_mk (x := l1960) hS
    replace hS := hS.drop 2
    replace hS := hS.drop 2
    replace hS := hS.drop 2
    replace hS := hS.pk 1
    cases hF
    have ht := T2057_ _ rfl
    subst ht
    replace hF := hR2057
    replace hF : some (.inr (y2119, l1960)) = some y := hF
    cases hF
    exact hQp _ rfl _ _ hA.defers hS
   replace hF := sum_l hF
   refine x_callw (vs := #[.pointer (some ⟨g0, 0, none⟩), .bool false]) en59 hA (RetS.lf (F_column_Reader_Check (L := blk g1 91 [.slice A1961 n1962 c1963] :: own kS 9 A1961 n1962 c1963 l1960 :: own kS 9 A1032 n1033 c1034 l1031 :: own kB 4 (some ⟨g1037, 0, none⟩) ((l1031.length : Int).toNat) ((l1031.length : Int).toNat) l1964 :: own (kI .i64) 2 B1586 m1587 d1588 y1580.1 :: L) (⟨l1955⟩ : S106) false g0 h2120 (qz + 5) hZ hS)) (fun v ac w hR hA => ?_) rfl rfl rfl rfl rfl rfl rfl
   obtain ⟨rfl, hS⟩ := hR
   obtain ⟨A2125, n2126, c2127, hS⟩ := obj106_open hS
   replace hS := hS.pk 1
   have hQ0 := SH.unpure hS
   clear hS
   obtain ⟨h2128, hS⟩ := hQ0
   refine wpList_nil ?_
   exact hj1 y2119.f0 hF A2125 n2126 c2127 h2128 ac w (hA.sub _ rfl) hS
  replace hF := iff' hb2061 hF
  refine wp_exit ?_
  replace hS := hS.drop 3
  replace hS := hS.drop 4
  cases hF
  exact hx2057_2 l1955 l1960 l1964 (T2057_ _ rfl) A1956 n1957 c1958 A1961 n1962 c1963 h1959 ac w (hA.sub _ rfl) hS
 obtain ⟨t2339, hl2339, hF⟩ := bnd hF
 have hR2339 := hF
 have hx2339_0 : ∀ (l2331 : (List Int)) (l2336 : (List (List UInt8))), (.inl (l2331, l2336)) = t2339 → ∀ (A2332 : Option Addr) (n2333 : Nat) (c2334 : Nat) (A2337 : Option Addr) (n2338 : Nat) (c2339 : Nat) (h2335 : Imm Z wz (kI .u8) A2332 n2333 c2334 l2331) (ac : Act) (w : World), FR 70 [] ac [(0, .pointer (some ⟨g0, 0, none⟩)), (1, .pointer (some ⟨g1, 0, none⟩)), (3, .slice A2337 n2338 c2339)] → SH r (blk g0 106 [.slice A2332 n2333 c2334] :: blk g1 91 [.slice A105 n106 c107] :: own kS 9 A105 n106 c107 a1 :: own kS 9 A2337 n2338 c2339 l2336 :: L) w → Kx731 ac w := by
  intro l2331 l2336 ht A2332 n2333 c2334 A2337 n2338 c2339 h2335 ac w hA hS
  subst ht
  replace hF : column_ReadTexts_1_x2_0 a1 l2331 l2336 = some y := hF
  unfold column_ReadTexts_1_x2_0 at hF
  exact hb1 l2331 l2336 hF A2332 n2333 c2334 A2337 n2338 c2339 h2335 ac w (hA.sub _ rfl) hS
 replace hS := SH.nil_own (d := kS) (e := 9) hS
 replace hS := hS.pk 3
 replace hS := hS.pk 3
 replace hS := hS.pk 3
 refine wp_loop_fn hl2339 (fun s ac w => ∃ (A2230 : Option Addr) (n2231 : Nat) (c2232 : Nat) (A2235 : Option Addr) (n2236 : Nat) (c2237 : Nat), Imm Z wz (kI .u8) A2230 n2231 c2232 s.1 ∧ FR 70 [] ac [(0, .pointer (some ⟨g0, 0, none⟩)), (1, .pointer (some ⟨g1, 0, none⟩)), (3, .slice A2235 n2236 c2237), (9, .int .u64 y721.1), (10, .int .u64 s.2.2)] ∧ SH r (blk g0 106 [.slice A2230 n2231 c2232] :: blk g1 91 [.slice A105 n106 c107] :: own kS 9 A105 n106 c107 a1 :: own kS 9 A2235 n2236 c2237 s.2.1 :: L) w) ⟨A727, n728, c729, none, 0, 0, h730, hA.sub _ rfl, hS⟩ ?_
 intro N2339 s2339 o2339 hF N2339_ T2339_ ac w hLab
 obtain ⟨l2229, l2234, x2238⟩ := s2339
 replace hF : column_ReadTexts_1_l2 a1 y721 l2229 l2234 x2238 = some o2339 := hF
 unfold column_ReadTexts_1_l2 at hF
 try dsimp only at hLab
 obtain ⟨A2230, n2231, c2232, A2235, n2236, c2237, h2233, hA, hS⟩ := hLab
 refine ws fun K2341 hK2341 => ?_
 refine x_v hA (r_ltI rfl (hA.ev rfl) (hA.ev rfl)) rfl fun ac hA => ?_
 refine wn (hK2341 _ _ ?_)
 refine wp_seq_k fun K2342 hK2342 => ?_
 refine c_if hA rfl (fun hb2343 => ?_) fun hb2343 => ?_
 ·replace hF := ift hb2343 hF
  refine wp_skip ?_
  refine hK2342 _ _ ?_
  refine wp_seq_k fun K2344 hK2344 => ?_
  refine wp_block_k fun Kx2345 hKx2345 => ?_
  refine ws fun K2346 hK2346 => ?_
  refine x_m hA rfl fun ac hA => ?_
  replace hS := SH.pure_ h2233 hS
  replace hS := hS.pk 1
  replace hS := obj106_mk (x := (⟨l2229⟩ : S106)) hS
  obtain ⟨y2347, h2348, hF⟩ := bnd hF
  rcases y2347 with y2347 | y2347
  rotate_left
  ·replace hF := sum_r hF
   refine x_callp (vs := #[.pointer (some ⟨g0, 0, none⟩), .int .i64 32]) en61 hA (RetS.rf (F_column_Reader_Text (L := blk g1 91 [.slice A105 n106 c107] :: own kS 9 A105 n106 c107 a1 :: own kS 9 A2235 n2236 c2237 l2234 :: L) (⟨l2229⟩ : S106) 32 g0 h2348 (qz + 3) hZ hS)) (fun w hR => ?_) rfl rfl rfl rfl rfl
   replace hS := hR
   obtain ⟨A2349, n2350, c2351, hS⟩ := obj106_open hS
   replace hS := hS.pk 1
   have hQ0 := SH.unpure hS
   clear hS
   obtain ⟨h2352, hS⟩ := hQ0
   replace hS := SH.pure_ h2352 hS
   replace hS := hS.pk 1
   replace hS := obj106_mk (x := y2347) hS
   replace hS := hS.pk 2
   replace hS := hS.pk 2
   replace hS := obj91_mk (x := a1) hS
   replace hS := hS.drop 2
   replace hS := hS.pk 1
   cases hF
   have ht := T2339_ _ rfl
   subst ht
   replace hF := hR2339
   replace hF : some (.inr (y2347, a1)) = some y := hF
   cases hF
   exact hQp _ rfl _ _ hA.defers hS
  replace hF := sum_l hF
  refine x_callw (vs := #[.pointer (some ⟨g0, 0, none⟩), .int .i64 32]) en61 hA (RetS.lf (F_column_Reader_Text (L := blk g1 91 [.slice A105 n106 c107] :: own kS 9 A105 n106 c107 a1 :: own kS 9 A2235 n2236 c2237 l2234 :: L) (⟨l2229⟩ : S106) 32 g0 h2348 (qz + 3) hZ hS)) (fun v ac w hR hA => ?_) rfl rfl rfl rfl rfl rfl rfl
  obtain ⟨rfl, hS⟩ := hR
  obtain ⟨A2353, n2354, c2355, hS⟩ := obj106_open hS
  replace hS := hS.pk 1
  have hQ0 := SH.unpure hS
  clear hS
  obtain ⟨h2356, hS⟩ := hQ0
  refine x_m hA rfl fun ac hA => ?_
  refine wn (hK2346 _ _ ?_)
  refine wp_seq_k fun K2357 hK2357 => ?_
  have hj2 : ∀ (l2384 : (List Int)), column_ReadTexts_1_j2 l2234 x2238 y2347 l2384 = some o2339 → ∀ (A2385 : Option Addr) (n2386 : Nat) (c2387 : Nat) (h2388 : Imm Z wz (kI .u8) A2385 n2386 c2387 l2384) (ac : Act) (w : World), FR 70 [] ac [(0, .pointer (some ⟨g0, 0, none⟩)), (1, .pointer (some ⟨g1, 0, none⟩)), (3, .slice A2235 n2236 c2237), (4, str y2347.1), (9, .int .u64 y721.1), (10, .int .u64 x2238)] → SH r (blk g0 106 [.slice A2385 n2386 c2387] :: blk g1 91 [.slice A105 n106 c107] :: own kS 9 A105 n106 c107 a1 :: own kS 9 A2235 n2236 c2237 l2234 :: L) w → K2357 ac w := by
   intro l2384 hF A2385 n2386 c2387 h2388 ac w hA hS
   unfold column_ReadTexts_1_j2 at hF
   refine hK2357 _ _ ?_
   refine wp_reg ?_
   refine x_m hA rfl fun ac hA => ?_
   refine x_m hA rfl fun ac hA => ?_
   refine x_bsl (d := kS) (e := 9) (ps := #[(0, str y2347.1)]) (cells := [str y2347.1]) (xs := [y2347.1]) (fun w => by kernel_rfl) rfl ⟨[str y2347.1], _, rfl, rfl, rfl⟩ hA hS (fun g2389 ac w hS hA => ?_) rfl rfl rfl rfl rfl rfl
   obtain ⟨h2390, hF⟩ := chk_some hF
   have hr := hS.rd 0 rfl
   refine x_app 4 inf9 Tryd.underlying91 hA hS hr.1 hr.2.1 h2390 rfl (fun A2391 n2392 c2393 ac w hS hA => ?_) rfl rfl rfl rfl rfl rfl rfl rfl rfl
   refine x_m hA rfl fun ac hA => ?_
   refine wpList_nil ?_
   refine hKx2345 _ _ ?_
   refine hK2344 _ _ ?_
   refine wp_reg ?_
   obtain ⟨x2394, h2395, hF⟩ := ltt_ hF
   refine x_v (v := .int .u64 x2394) hA (rv_i h2395 (r_add rfl (hA.ev rfl) (hA.ev rfl))) rfl fun ac hA => ?_
   refine x_m hA rfl fun ac hA => ?_
   refine wpList_nil ?_
   replace hS := hS.drop 1
   replace hS := hS.pk 3
   replace hS := hS.pk 3
   replace hS := hS.pk 3
   cases hF
   exact ⟨_, N2339_ _ rfl, A2385, n2386, c2387, A2391, n2392, c2393, h2388, hA.sub _ rfl, hS⟩
  refine wp_reg ?_
  refine x_m hA rfl fun ac hA => ?_
  refine x_m hA rfl fun ac hA => ?_
  refine x_len Tryd.underlying91 (hS.rd 3 rfl).2.1 hA (fun ac hA => ?_) rfl rfl rfl rfl rfl
  refine x_v hA (r_eqI rfl (hA.ev rfl) (hA.ev rfl)) rfl fun ac hA => ?_
  refine x_m hA rfl fun ac hA => ?_
  refine bcase (b := (l2234.length : Int) == 0) (fun hb2396 => ?_) fun hb2396 => ?_
  ·replace hF := ift hb2396 hF
   refine x_off hb2396 hA (fun ac hA => ?_) rfl rfl rfl rfl rfl
   refine x_off hb2396 hA (fun ac hA => ?_) rfl rfl rfl rfl rfl
   refine x_off hb2396 hA (fun ac hA => ?_) rfl rfl rfl rfl rfl
   refine x_off hb2396 hA (fun ac hA => ?_) rfl rfl rfl rfl rfl
   refine x_off hb2396 hA (fun ac hA => ?_) rfl rfl rfl rfl rfl
   refine x_off hb2396 hA (fun ac hA => ?_) rfl rfl rfl rfl rfl
   refine x_off hb2396 hA (fun ac hA => ?_) rfl rfl rfl rfl rfl
   refine x_off hb2396 hA (fun ac hA => ?_) rfl rfl rfl rfl rfl
   refine x_pickt hb2396 hA (fun ac hA => ?_) rfl rfl rfl rfl rfl rfl
   replace hS := SH.pure_ h2356 hS
   replace hS := hS.pk 1
   replace hS := obj106_mk (x := y2347.2) hS
   obtain ⟨y2397, h2398, hF⟩ := bnd hF
   rcases y2397 with y2397 | y2397
   rotate_left
   ·replace hF := sum_r hF
    refine x_callp (vs := #[.pointer (some ⟨g0, 0, none⟩), .bool true]) en59 hA (RetS.rf (F_column_Reader_Check (L := blk g1 91 [.slice A105 n106 c107] :: own kS 9 A105 n106 c107 a1 :: own kS 9 A2235 n2236 c2237 l2234 :: L) y2347.2 true g0 h2398 (qz + 3) hZ hS)) (fun w hR => ?_) rfl rfl rfl rfl rfl
    replace hS := hR
    obtain ⟨A2399, n2400, c2401, hS⟩ := obj106_open hS
    replace hS := hS.pk 1
    have hQ0 := SH.unpure hS
    clear hS
    obtain ⟨h2402, hS⟩ := hQ0
    replace hS := SH.pure_ h2402 hS
    replace hS := hS.pk 1
    replace hS := obj106_mk (x := y2397) hS
    replace hS := hS.pk 2
    replace hS := hS.pk 2
    replace hS := obj91_mk (x := a1) hS
    replace hS := hS.drop 2
    replace hS := hS.pk 1
    cases hF
    have ht := T2339_ _ rfl
    subst ht
    replace hF := hR2339
    replace hF : some (.inr (y2397, a1)) = some y := hF
    cases hF
    exact hQp _ rfl _ _ hA.defers hS
   replace hF := sum_l hF
   refine x_callw (vs := #[.pointer (some ⟨g0, 0, none⟩), .bool true]) en59 hA (RetS.lf (F_column_Reader_Check (L := blk g1 91 [.slice A105 n106 c107] :: own kS 9 A105 n106 c107 a1 :: own kS 9 A2235 n2236 c2237 l2234 :: L) y2347.2 true g0 h2398 (qz + 3) hZ hS)) (fun v ac w hR hA => ?_) rfl rfl rfl rfl rfl rfl rfl
   obtain ⟨rfl, hS⟩ := hR
   obtain ⟨A2403, n2404, c2405, hS⟩ := obj106_open hS
   replace hS := hS.pk 1
   have hQ0 := SH.unpure hS
   clear hS
   obtain ⟨h2406, hS⟩ := hQ0
   refine wpList_nil ?_
   exact hj2 y2397.f0 hF A2403 n2404 c2405 h2406 ac w (hA.sub _ rfl) hS
  replace hF := iff' hb2396 hF
  refine x_on hb2396 hA ?_ rfl rfl rfl
  refine x_m hA rfl fun ac hA => ?_
  refine x_on hb2396 hA ?_ rfl rfl rfl
  refine x_m hA rfl fun ac hA => ?_
  refine x_on hb2396 hA ?_ rfl rfl rfl
  refine x_len Tryd.underlying91 (hS.rd 3 rfl).2.1 hA (fun ac hA => ?_) rfl rfl rfl rfl rfl
  refine x_on hb2396 hA ?_ rfl rfl rfl
  obtain ⟨x2407, h2408, hF⟩ := ltt_ hF
  refine x_v (v := .int .i64 x2407) hA (rv_i h2408 (r_sub rfl (hA.ev rfl) (hA.ev rfl))) rfl fun ac hA => ?_
  refine x_on hb2396 hA ?_ rfl rfl rfl
  obtain ⟨x2409, h2410, hF⟩ := bnd hF
  refine x_ia Tryd.underlying91 sz9 (hS.rd 3 rfl) h2410 hA (fun ac hA => ?_) rfl rfl rfl rfl rfl rfl
  refine x_on hb2396 hA ?_ rfl rfl rfl
  obtain ⟨cs, hV, hc2411⟩ := el (hS.rd 3 rfl) h2410
  obtain rfl := hV
  refine x_ld Tryd.underlying9 (hc2411 0 _ rfl) hA (fun ac hA => ?_) rfl rfl rfl rfl rfl rfl
  refine x_on hb2396 hA ?_ rfl rfl rfl
  refine x_m hA rfl fun ac hA => ?_
  refine x_on hb2396 hA ?_ rfl rfl rfl
  refine x_v hA (r_ltS rfl (hA.ev rfl) (hA.ev rfl)) rfl fun ac hA => ?_
  refine x_pickf hb2396 hA (fun ac hA => ?_) rfl rfl rfl rfl rfl rfl
  replace hS := SH.pure_ h2356 hS
  replace hS := hS.pk 1
  replace hS := obj106_mk (x := y2347.2) hS
  obtain ⟨y2412, h2413, hF⟩ := bnd hF
  rcases y2412 with y2412 | y2412
  rotate_left
  ·replace hF := sum_r hF
   refine x_callp (vs := #[.pointer (some ⟨g0, 0, none⟩), .bool (Op.bytesLess x2409 y2347.1)]) en59 hA (RetS.rf (F_column_Reader_Check (L := blk g1 91 [.slice A105 n106 c107] :: own kS 9 A105 n106 c107 a1 :: own kS 9 A2235 n2236 c2237 l2234 :: L) y2347.2 (Op.bytesLess x2409 y2347.1) g0 h2413 (qz + 3) hZ hS)) (fun w hR => ?_) rfl rfl rfl rfl rfl
   replace hS := hR
   obtain ⟨A2414, n2415, c2416, hS⟩ := obj106_open hS
   replace hS := hS.pk 1
   have hQ0 := SH.unpure hS
   clear hS
   obtain ⟨h2417, hS⟩ := hQ0
   replace hS := SH.pure_ h2417 hS
   replace hS := hS.pk 1
   replace hS := obj106_mk (x := y2412) hS
   replace hS := hS.pk 2
   replace hS := hS.pk 2
   replace hS := obj91_mk (x := a1) hS
   replace hS := hS.drop 2
   replace hS := hS.pk 1
   cases hF
   have ht := T2339_ _ rfl
   subst ht
   replace hF := hR2339
   replace hF : some (.inr (y2412, a1)) = some y := hF
   cases hF
   exact hQp _ rfl _ _ hA.defers hS
  replace hF := sum_l hF
  refine x_callw (vs := #[.pointer (some ⟨g0, 0, none⟩), .bool (Op.bytesLess x2409 y2347.1)]) en59 hA (RetS.lf (F_column_Reader_Check (L := blk g1 91 [.slice A105 n106 c107] :: own kS 9 A105 n106 c107 a1 :: own kS 9 A2235 n2236 c2237 l2234 :: L) y2347.2 (Op.bytesLess x2409 y2347.1) g0 h2413 (qz + 3) hZ hS)) (fun v ac w hR hA => ?_) rfl rfl rfl rfl rfl rfl rfl
  obtain ⟨rfl, hS⟩ := hR
  obtain ⟨A2418, n2419, c2420, hS⟩ := obj106_open hS
  replace hS := hS.pk 1
  have hQ0 := SH.unpure hS
  clear hS
  obtain ⟨h2421, hS⟩ := hQ0
  refine wpList_nil ?_
  exact hj2 y2412.f0 hF A2418 n2419 c2420 h2421 ac w (hA.sub _ rfl) hS
 replace hF := iff' hb2343 hF
 refine wp_exit ?_
 cases hF
 exact hx2339_0 l2229 l2234 (T2339_ _ rfl) A2230 n2231 c2232 A2235 n2236 c2237 h2233 ac w (hA.sub _ rfl) hS
theorem F_Try_column_ReadTexts_1 {r : World} {L : List HP} {w : World} {Z : Nat → Prop} {wz : World} (a0 : (List Int)) (a60 : (List (List UInt8))) (A0 : Option Addr) (n0 : Nat) (c0 : Nat) (g60 : Nat) {y : (Bool × (List (List UInt8)))} (hF : Try_column_ReadTexts_1 a0 a60 = some y) (qz : Nat) (hZ : L[qz]? = some (zone Z wz)) (ha0 : Imm Z wz (kI .u8) A0 n0 c0 a0) (hS : SH r (obj91 g60 a60 :: L) w) :
  Ret Tryd.prog 39 #[.slice A0 n0 c0, .func (.func 79) #[] #[.pointer (some ⟨g60, 0, none⟩)]] w fun v w' => v = .bool y.1 ∧ SH r (obj91 g60 y.2 :: L) w' := by
 obtain ⟨y', hy, hF⟩ := bnd hF
 refine Ret.mono_ (try_walk (R := fun v w' => v = .bool y.1 ∧ SH r (obj91 g60 y.2 :: L) w') en79 hS (fun g g4 w1 hS1 => ?_)) (fun v w' h => h)
 replace hS1 := obj106_mk (x := ⟨a0⟩) (hS1.pk 1 |> fun h => (SH.pure_ ha0 (h.pk 1)).pk 1)
 replace hS1 := hS1.pk 1
 replace hS1 := hS1.pk 2
 replace hS1 := hS1.pk 2
 rcases y' with y' | y'
 ·replace hF := sum_l hF
  cases hF
  left
  refine Ret.mono_ (RetS.lf (F_column_ReadTexts_1 (L := blk g4 4 [.bool false] :: L) (⟨a0⟩ : S106) a60 g g60 hy (qz + 1) hZ hS1)) ?_
  rintro v w2 ⟨rfl, hS⟩
  replace hS := hS.pk 2
  replace hS := hS.pk 1
  obtain ⟨A', n', c', hS⟩ := obj106_open hS
  have hQ := SH.unpure (hS.pk 1)
  clear hS
  obtain ⟨hi, hS⟩ := hQ
  refine ⟨_, A', n', c', hS, fun w3 h3 => ⟨?_, h3⟩⟩
  rw [← hi.ln]
 ·replace hF := sum_r hF
  cases hF
  right
  refine Calls.mono (RetS.rf (F_column_ReadTexts_1 (L := blk g4 4 [.bool false] :: L) (⟨a0⟩ : S106) a60 g g60 hy (qz + 1) hZ hS1)) ?_
  rintro e w2 ⟨rfl, hS⟩
  replace hS := hS.pk 2
  replace hS := hS.drop 1
  exact ⟨rfl, _, hS, fun w3 h3 => ⟨rfl, h3⟩⟩
theorem F_column_ReadTexts {r : World} {L : List HP} {w : World} {Z : Nat → Prop} {wz : World} (a0 : (List Int)) (A0 : Option Addr) (n0 : Nat) (c0 : Nat) {y : ((List (List UInt8)) × Int)} (hF : column_ReadTexts a0 = some y) (qz : Nat) (hZ : L[qz]? = some (zone Z wz)) (ha0 : Imm Z wz (kI .u8) A0 n0 c0 a0) (hS : SH r (L) w) :
  Ret Tryd.prog 64 #[.slice A0 n0 c0] w fun v w' => ∃ (B0 : Option Addr) (m0 : Nat) (d0 : Nat), v = .tuple #[(.slice B0 m0 d0), (.int .i64 y.2)] ∧ SH r (own kS 9 B0 m0 d0 y.1 :: L) w' := by
 refine enter Tryd.func64 rfl Tryd.ntmps64 [(0, .slice A0 n0 c0)] rfl (by simp) ?_
 intro ac hA Qf hQ hQn
 unfold column_ReadTexts at hF
 refine ws fun K101 hK101 => ?_
 refine x_m hA rfl fun ac hA => ?_
 refine x_m hA rfl fun ac hA => ?_
 refine wn (hK101 _ _ ?_)
 refine ws fun K102 hK102 => ?_
 refine x_alloc (cs := [.slice none 0 0]) zr91 hA hS (fun g103 ac w hS hA => ?_) rfl rfl rfl rfl rfl
 refine wn (hK102 _ _ ?_)
 refine ws fun K104 hK104 => ?_
 refine x_m hA rfl fun ac hA => ?_
 refine x_v hA (r_makeFunc rfl (mapev (vals := #[]) hA rfl) (mapev (vals := #[.pointer (some ⟨g103, 0, none⟩)]) hA rfl)) rfl fun ac hA => ?_
 replace hS := SH.nil_own (d := kS) (e := 9) hS
 replace hS := hS.pk 1
 replace hS := obj91_mk (x := []) hS
 obtain ⟨y105, h106, hF⟩ := bnd hF
 refine x_call en39 hA (F_Try_column_ReadTexts_1 (L := L) a0 [] A0 n0 c0 g103 h106 (qz + 0) hZ ha0 hS) (fun v ac w hR hA => ?_) rfl rfl rfl rfl rfl
 obtain ⟨rfl, hS⟩ := hR
 obtain ⟨A107, n108, c109, hS⟩ := obj91_open hS
 refine x_m hA rfl fun ac hA => ?_
 refine wn (hK104 _ _ ?_)
 refine wp_seq_k fun K110 hK110 => ?_
 refine ws fun K111 hK111 => ?_
 refine x_m hA rfl fun ac hA => ?_
 refine x_v hA (r_not rfl (hA.ev rfl)) rfl fun ac hA => ?_
 refine wn (hK111 _ _ ?_)
 refine c_if hA rfl (fun hb112 => ?_) fun hb112 => ?_
 ·replace hF := ift hb112 hF
  refine ws fun K113 hK113 => ?_
  refine x_m hA rfl fun ac hA => ?_
  refine x_m hA rfl fun ac hA => ?_
  refine wn (hK113 _ _ ?_)
  refine wp_ret ?_
  replace hS := SH.nil_own (d := kS) (e := 9) hS
  replace hS := hS.drop 1
  replace hS := hS.drop 1
  cases hF
  refine hQ _ _ ?_
  refine lv2 Tryd.results64 hA rfl rfl ?_
  exact ⟨none, 0, 0, rfl, hS⟩
 replace hF := iff' hb112 hF
 refine wp_skip ?_
 refine hK110 _ _ ?_
 refine ws fun K114 hK114 => ?_
 refine x_ld Tryd.underlying91 (hS.cell 0 rfl 0 _ rfl) hA (fun ac hA => ?_) rfl rfl rfl rfl rfl rfl
 refine x_m hA rfl fun ac hA => ?_
 refine x_m hA rfl fun ac hA => ?_
 refine wn (hK114 _ _ ?_)
 refine wp_ret ?_
 replace hS := hS.drop 0
 cases hF
 refine hQ _ _ ?_
 refine lv2 Tryd.results64 hA rfl rfl ?_
 exact ⟨A107, n108, c109, rfl, hS⟩
end Go.Proofs.YteodeedejjcmgaaDoor.M
